import Derived.Test.YtchhojplceoifaaGreatDoorYf32
set_option linter.all false
set_option maxRecDepth 100000
set_option maxHeartbeats 8000000
namespace Go.Proofs.Xe
open Go.RowKit Go.Proofs.Ins
def RF(W:Rat)(q r:Nat->Rat)(k:Nat):Rat:=oP W (aB (k+1) q) (aB (k+1) r)-oP W (aB k q) (aB k r)
def abX(W:Rat):oP W 0 0=0:=by grind[oP]
theorem Nv(W:Rat)(q r:Nat->Rat):∀m,aB m (RF W q r)=oP W (aB m q) (aB m r)
 |0=>(abX W).symm
 |m+1=>by rw[aB,Nv W q r m];unfold RF;grind
def Ua{W:Rat}{q r:fZ->Rat}{a:fZ}(j:Nat):∀{t:List fZ}{Q R:Rat},jo W q r Q R (oP W Q R) (t++[a]) j=jo W q r Q R (oP W Q R) t j+if a.1=j then oP W (Q+aJ t q+q a) (R+aJ t r+r a)-oP W (Q+aJ t q) (R+aJ t r)else 0
 |[],Q,R=>by show(if a.1=j then oP W (Q+q a) (R+r a)-oP W Q R else 0)+0=0+if a.1=j then oP W (Q+0+q a) (R+0+r a)-oP W (Q+0) (R+0)else 0;grind
 |b::t,Q,R=>by rw[fu];unfold jo;rw[Ua];show _=_+if a.1=j then oP W (Q+(q b+aJ t q)+q a) (R+(r b+aJ t r)+r a)-oP W (Q+(q b+aJ t q)) (R+(r b+aJ t r))else 0;rw[show Q+(q b+aJ t q)=Q+q b+aJ t q by grind,show R+(r b+aJ t r)=R+r b+aJ t r by grind];grind
section
variable (g:fC) (x:Nat→Rat)
def LX(i c:Nat):Rat:=yN (bY (ix g.e i)) (x i) c
def Qn(j i c:Nat):Rat:=if vT (bI g) j i c then LX g x i c else 0
def RH(i c j b:Nat):Rat:=if b<i then aB (kE g.e b) (Qn g x j b)else if b=i then aB c (Qn g x j i)else 0
def mgP(t j b:Nat):Rat:=aB (kE g.e b) (Qn g x j b)+aJ ((bI g).ds.take t) (dM (bI g) x j b)
def Kw(t i:Nat)(u:Nat->Rat)(j b:Nat):Rat:=mgP g x t j b+if b<i then dM (bI g) x j b (dW g t,dL g t)else if b=i then u j else 0
def Ub(t i k j:Nat):Rat:=jo (dW g t) (gq (bI g) x) (gs (bI g) x i) 0 0 0 ((dL g t).take k) j
def Uc(t k:Nat):Rat:=gq (bI g) x (Bj (ix (ix g.d t).l k))
def Jk(t i k:Nat):Rat:=gs (bI g) x i (Bj (ix (ix g.d t).l k))
end
section
variable {g:fC} {x:Nat→Rat}
def akr:RH g x 0 0=λ_ _=>0:=by funext j b;unfold RH;rw[ab jb];split<;>rfl
def aks(i:Nat):RH g x i (kE g.e i)=RH g x (i+1) 0:=by
 funext j b;unfold RH;by_cases h:b<i
 .grind
 .rw[ab h];by_cases h2:b=i
  .grind
  .rw[ab h2,ab jb];split<;>rfl
def aoO{i c hh:Nat}(hl:(bI g).fJ.contains (i,c)=false)(hk:apH g i c=(hh:Int)):tH (rC (RH g x i c)) hh i (dO (RH g x i c hh i+LX g x i c))=rC (RH g x i (c+1)):=by
 funext j b;have ho:Qn g x j i c=if j=hh then LX g x i c else 0:=by unfold Qn vT;grind[bI,apH]
 grind[tH,rC,RH,aB]
def Zg{i c:Nat}(h:(bI g).fJ.contains (i,c)=true\/apH g i c=-1):RH g x i c=RH g x i (c+1):=by
 funext j b;have ho:Qn g x j i c=0:=by unfold Qn vT;grind[bI,apH]
 grind[RH,aB]
def aoP{n j b:Nat}(hb:b<n):RH g x n 0 j b=mgP g x 0 j b:=by unfold RH mgP;rw[ae hb,cI];exact(cY _).symm
def akt(t:Nat):mgP g x t=Kw g x t 0 λ_=>0:=by grind[Kw]
def Qo(t i:Nat):(Kw g x t i λj=>dM (bI g) x j i (dW g t,dL g t))=Kw g x t (i+1) λ_=>0:=by grind[Kw]
theorem aku{t j b:Nat}(h:t<g.d.length):mgP g x (t+1) j b=mgP g x t j b+dM (bI g) x j b (dW g t,dL g t):=by grind[mgP,bU,yQ,nR,Qi]
def aoQ{t n j b:Nat}(h:t<g.d.length)(hb:b<n):Kw g x t n (λ_=>0) j b=mgP g x (t+1) j b:=by grind[aku,Kw]
def aoR{j b:Nat}:mgP g x g.d.length j b=gM g.e.length (bI g) x j b:=by unfold mgP gM;rw[<-yQ,cC];congr 1;refine aQ λc _=>?_;unfold Qn;have e:gs (bI g) x b (b,c)=LX g x b c:=ae rfl;rw[e]
def akv(t i:Nat):(λ_:Nat=>(0:Rat))=Ub g x t i 0:=by rfl
theorem Ky(g:fC)(t:Nat):(dL g t).length=(ix g.d t).l.length:=cA _
theorem akw{t k:Nat}(hk:k<(ix g.d t).l.length):ix (dL g t) k=Bj (ix (ix g.d t).l k):=Y4 Bj hk
def Wp(f:fZ->Rat){t m:Nat}(hm:m<=(ix g.d t).l.length):aB m (λk=>f (Bj (ix (ix g.d t).l k)))=aJ ((dL g t).take m) f:=by grind[Qj,Ky,aQ,akw]
def akx{t i k j:Nat}(hk:k<(ix g.d t).l.length):Ub g x t i (k+1) j=Ub g x t i k j+if(Bj (ix (ix g.d t).l k)).1=j then RF (dW g t) (Uc g x t) (Jk g x t i) k else 0:=by unfold Ub;rw[bU (by grind[Ky]),akw hk];have h:=Ua (W:=dW g t) (q:=gq (bI g) x) (r:=gs (bI g) x i) (a:=Bj (ix (ix g.d t).l k)) j (t:=(dL g t).take k) (Q:=0) (R:=0);rw[abX,gA,gA]at h;rw[h];unfold RF;have e1:∀m,m<=(ix g.d t).l.length->aB m (Uc g x t)=aJ ((dL g t).take m) (gq (bI g) x):=λm hm=>Wp (gq (bI g) x) hm;have e2:∀m,m<=(ix g.d t).l.length->aB m (Jk g x t i)=aJ ((dL g t).take m) (gs (bI g) x i):=λm hm=>Wp (gs (bI g) x i) hm;rw[aB,aB,e1 k jb,e2 k jb];rfl
def aoS{t i k e c:Nat}(hk:k<(ix g.d t).l.length)(FU:ix (ix g.d t).l k=⟨.ofNat e,.ofNat c⟩):tH (rC (Kw g x t i (Ub g x t i k))) e i (dO (Kw g x t i (Ub g x t i k) e i+RF (dW g t) (Uc g x t) (Jk g x t i) k))=rC (Kw g x t i (Ub g x t i (k+1))):=by funext j b;have h:=akx (x:=x) (i:=i) (j:=j) hk;rw[FU]at h;have h:Ub g x t i (k+1) j=Ub g x t i k j+if e=j then RF (dW g t) (Uc g x t) (Jk g x t i) k else 0:=h;grind[tH,rC,Kw]
theorem adT{t i:Nat}(j:Nat):dM (bI g) x j i (dW g t,dL g t)=(if Ro (bI g) (dW g t,dL g t)=(j:Int)then aB (ix g.d t).l.length (Jk g x t i)-aB (ix g.d t).l.length (RF (dW g t) (Uc g x t) (Jk g x t i))else 0)+Ub g x t i (ix g.d t).l.length j:=by unfold dM Ub;have e1:aB (ix g.d t).l.length (Uc g x t)=aJ ((dL g t).take (ix g.d t).l.length) (gq (bI g) x):=Wp (gq (bI g) x) jp;have e2:aB (ix g.d t).l.length (Jk g x t i)=aJ ((dL g t).take (ix g.d t).l.length) (gs (bI g) x i):=Wp (gs (bI g) x i) jp;grind[Nv,Ky]
def aoT{t i hh:Nat}(hd:Ro (bI g) (dW g t,dL g t)=(hh:Int)):tH (rC (Kw g x t i (Ub g x t i (ix g.d t).l.length))) hh i (dO (Kw g x t i (Ub g x t i (ix g.d t).l.length) hh i+(aB (ix g.d t).l.length (Jk g x t i)-aB (ix g.d t).l.length (RF (dW g t) (Uc g x t) (Jk g x t i)))))=rC (Kw g x t i λj=>dM (bI g) x j i (dW g t,dL g t)):=by grind[tH,rC,Kw,adT]
def Zh{t i:Nat}(hd:Ro (bI g) (dW g t,dL g t)=-1):Kw g x t i (Ub g x t i (ix g.d t).l.length)=Kw g x t i λj=>dM (bI g) x j i (dW g t,dL g t):=by
 have e:Ub g x t i (ix g.d t).l.length=λj=>dM (bI g) x j i (dW g t,dL g t):=by grind[adT]
 rw[e]
end
structure Wq(D:Nat)(g:fC)(x:Nat->Rat):Prop where
 A:axM D g x
 r:∀i,i<g.e.length->ROk D (bY (ix g.e i)) (x i)
 s:∀i,i<g.e.length->∀c,c<kE g.e i->0<=LX g x i c/\Zk D 1 (LX g x i c)
def Ws{D:Nat}{W:Rat}{q r:fZ->Rat}{j:Nat}:∀(t:List fZ){Q R B:Rat}{K M:Nat},(∀a∈t,Zk D 1 (r a))->Zk D K R->Zk D K B->K+t.length<=M->Zk D (t.length*(2*M)) (jo W q r Q R B t j)
 |[],_,_,_,_,_,_,_,_,_=>Zk.zero.mono (br _)
 |a::t,Q,R,B,K,M,hr,hR,hB,hM=>by
  rw[bL]at hM⊢;have ho:Zk D (K+1) (oP W (Q+q a) (R+r a)):=by
   unfold oP;split
   .exact hR.add (hr a kc)
   .exact Zk.zero.mono (br _)
  have h1:=Ws (W:=W) (q:=q) (j:=j) (Q:=Q+q a) t (λb hb=>hr b (by simp[hb])) (hR.add (hr a kc)) ho (by omega:K+1+t.length<=M);rw[cj,eN];unfold jo;refine Zk.add ?_ h1;split
  .exact(ho.sub hB).mono jb
  .exact Zk.zero.mono (br _)
section
variable {D:Nat} {g:fC} {x:Nat→Rat}
theorem Wq.gs(h:Wq D g x){t:Nat}(ht:t<g.d.length)(i:Nat):∀a∈dL g t,Zk D 1 (gs (bI g) x i a)/\0<=gs (bI g) x i a:=λa ha=>by
 obtain⟨y,hy,rfl⟩:=cW.mp ha;obtain⟨k,hk,rfl⟩:=aL hy;rw[<-dU hk];obtain⟨e,c,h1,h2,h3⟩:=(h.A.s.l t ht).2 k hk;rw[h1];unfold Ins.gs;obtain⟨h4,h5⟩:=h.s e h2 c h3;split
 .exact⟨h5,h4⟩
 .exact⟨Zk.zero.mono (br _),aY⟩
def Wq.own(h:Wq D g x){j b c:Nat}(hb:b<g.e.length)(hc:c<kE g.e b):Zk D 1 (Qn g x j b c):=by
 unfold Qn;split
 .exact(h.s b hb c hc).2
 .exact Zk.zero.mono (br _)
def Wq.A'(h:Wq D g x){i c j b:Nat}(hb:b<g.e.length)(hc:b=i->c<=kE g.e b):Zk D 1000 (RH g x i c j b):=by
 have hk:=h.A.s.k b hb;unfold RH;split
 .exact(Zk.Am λc hc=>h.own hb hc).mono hk
 .split
  .next e=>
   subst e;exact(Zk.Am λc' hc'=>h.own hb jb).mono jb
  .exact Zk.zero.mono (br _)
theorem Wq.dM(h:Wq D g x){t:Nat}(ht:t<g.d.length)(j i:Nat):Zk D 2002000 (dM (bI g) x j i (dW g t,dL g t)):=by
 have hl:=(h.A.s.l t ht).1;have hlen:=Ky g t;have hz:Zk D 1000 (aJ (dL g t) (Ins.gs (bI g) x i)):=(VR λa ha=>(h.gs ht i a ha).1).mono jb;have hr:=Ws (W:=dW g t) (q:=gq (bI g) x) (j:=j) (Q:=0) (K:=0) (M:=1000) (dL g t) (λa ha=>(h.gs ht i a ha).1) Zk.zero Zk.zero jb;unfold Ins.dM;refine Zk.mono (Zk.add (k:=2000) (l:=2000000) ?_ (hr.mono ?_)) jb
 .split
  .refine(hz.sub (l:=1000) ?_).mono jb;unfold oP;split
   .exact hz
   .exact Zk.zero.mono (br _)
  .exact Zk.zero.mono (br _)
 omega
def Wq.U(h:Wq D g x){t:Nat}(ht:t<g.d.length)(i k j:Nat):Zk D 2002000 (Ub g x t i k j):=by have hl:=(h.A.s.l t ht).1;have hlen:=Ky g t;have hr:=Ws (W:=dW g t) (q:=gq (bI g) x) (j:=j) (Q:=0) (K:=0) (M:=1000) ((dL g t).take k) (λa ha=>(h.gs ht i a (et ha)).1) Zk.zero Zk.zero kd;refine hr.mono ?_;grind
def Wq.P(h:Wq D g x){t j b:Nat}(ht:t<=g.d.length)(hb:b<g.e.length):Zk D 2002001000 (mgP g x t j b):=by
 have hk:=h.A.s.k b hb;have hd:=h.A.s.d;have h1:Zk D 1000 (aB (kE g.e b) (Qn g x j b)):=(Zk.Am λc hc=>h.own hb hc).mono hk;have h2:∀t,t<=g.d.length->Zk D (t*2002000) (aJ ((bI g).ds.take t) (Ins.dM (bI g) x j b)):=λt=>by
  induction t with
  |zero=>intro _;exact Zk.zero.mono (br _)
  |succ t ih=>
   intro ht
   rw[bU (by grind[yQ]),nR,Qi ht,cj]
   exact(ih jb).add (h.dM ht j b)
 exact(h1.add (h2 t ht)).mono jb
def Wq.D'(h:Wq D g x){t i j b:Nat}{u:Nat->Rat}(ht:t<g.d.length)(hb:b<g.e.length)(hu:Zk D 2002000 (u j)):Zk D 2004003000 (Kw g x t i u j b):=by
 unfold Kw;refine Zk.mono (Zk.add (l:=2002000) (h.P (il ht) hb) ?_) jb;split
 .exact h.dM ht j b
 .split
  .exact hu
  .exact Zk.zero.mono (br _)
end
def agj{n:Nat}{tk:Int->Bool}{x:yw}(h:aa2 n tk x=0):(x.k=Int.negSucc 0/\x.b=true\/∃c:Nat,c<n/\x.k=Int.ofNat c/\tk x.k=false)/\(x.b=true->¬sg x.a.q<0):=by
 unfold aa2 at h;split at h
 .cases h
 .split at h
  .cases h
  .split at h
   .cases h
   .split at h
    .cases h
    .next h1 h2 h3 h4=>
     refine⟨?_,λhb hs=>h3 ⟨hb,hs⟩⟩;by_cases e:x.k=-1
     .refine .inl ⟨e,?_⟩;cases hb:x.b with
      |true=>rfl
      |false=>exact absurd ⟨e,hb⟩ h2
     .obtain⟨c,hc⟩:=cn (show 0<=x.k by omega);refine .inr ⟨c,jb,hc,?_⟩;cases ht:tk x.k with
      |false=>rfl
      |true=>exact absurd ⟨e,ht⟩ h4
def agk{n:Nat}{tk:Int->Bool}{a:fD}(h:X9 n tk a=0):(a.length<=24/\∀i,i<a.length->(ix a i).length<=24)/\∀k,k<a.flatten.length->aa2 n tk (ix a.flatten k)=0:=by
 unfold X9 at h;split at h
 .cases h
 .next h1=>
  refine⟨DR.mp (by simpa using h1),λk hk=>?_⟩;obtain⟨t,ht,hx⟩:=List.mem_flatten.mp (mX hk);obtain⟨i,hi,rfl⟩:=aL ht;obtain⟨j,hj,e⟩:=aL hx;have:=iP (iP h i hi) j (by rw[dU hi];exact hj);rw[dU hi,dU hj,e]at this;exact this
def agl{σ:St}(hW:WF σ){p:Nat->Prop}{v:B}{n:Nat}{T:Nat->B}(hv:aX p σ.h 1 v n λi=>[T i])(hT:∀i,i<n->∃k:Nat,lenV (.c (T i))=some (jN k)/\k<=24)(hn:n<=1000):
  aC EN 212 [.c v,.fn 180 []] σ λr σ'=>r=.c (.int .i64 (.negSucc 0))/\Fr σ σ':=by
 refine aO (fP.o _ _) fP.h ?_
 unfold fP
 dsimp only
 have hlen:=aX.len hv
 have hc:=λ(args:List V) (σ:St) (K:V->St->Prop)=>lS (E:=EN) (K:=K) (jg.o args σ) jg.h
 unfold jg at hc
 dsimp only at hc
 simp(disch:=try exact jz) only[go_sem,hlen]
 refine aF (λq tm σ'=>∃j,q=n-j/\j<=n/\Tr.ah tm 0=.c v/\Tr.ah tm 1=.fn 180 []/\Tr.ah tm 7=jN n/\Tr.ah tm 8=jN j/\Fr σ σ') n ?_ ?_
 .refine⟨0,jb,jb,?_⟩
  simp(disch:=try exact jz) only[go_sem,am]
  exact Fr.refl hW
 .rintro q tm σ' ⟨j,rfl,hj,t0,t1,t7,t8,hf⟩
  simp(disch:=try exact jz) only[go_sem,t0,t1,t7,t8,aG]
  refine aH (λhlt=>?_) (λhlt=>?_)
  .obtain⟨b,o,c,rfl,hld⟩:=HL.one (aX.hl hv) jb
   have hld:=hf.ld hW (hld j hlt)
   obtain⟨k,hk,hk2⟩:=hT j hlt
   have hd:decide ((Int.ofNat 24:Int)<Int.ofNat k)=false:=az (by show¬((24:Int)<(k:Int));omega)
   simp(disch:=try exact jz) only[go_sem,t0,t1,t7,t8,hld,hc,hk,hd]
   exact⟨n-(j+1),jb,j+1,rfl,jb,rfl,hf⟩
  .have:j=n:=jb
   subst this
   simp(disch:=try exact jz) only[go_sem,t0]
   exact hf
def akz{E:Env}[aa7 E]{σ:St}(hW:WF σ){p:Nat->Prop}{v:B}{a:fD}(ha:dP p σ.h v a)(h1:a.length<=1000000)(h2:a.flatten.length<=1000000):
  aC E 181 [.c v] σ λr σ'=>(∃u,r=.c u/\wB (Lt σ'.aj) σ'.h u a.flatten)/\Fr σ σ':=by
 by_cases h0:a.flatten.length=0
 .rw[Y6 ha h1 h2 (v':=.c .aP) (σ':=σ) (ae h0)]
  exact⟨⟨_,rfl,.inl ⟨h0,rfl⟩⟩,Fr.refl hW⟩
 .rw[Y6 ha h1 h2 (ab h0)]
  exact⟨⟨_,rfl,bD _ (aA _ _ _) (CQ _ _ jj) (bR _) (λ_=>rfl) jj λ_ _=>rfl⟩,fr⟩
def axN{σ:St}(hW:WF σ){p:Nat->Prop}{v tv:B}{a:fD}{nc:Nat}{tk:Int->Bool}(ha:dP p σ.h v a)(ht:HL σ.h 1 tv nc λi=>[.bool (tk (Int.ofNat i))])(hn:nc<=1000)(hz:X9 nc tk a=0)(hnf:a.flatten.length<=1000000)(hfp:∀k,k<a.flatten.length->(ix a.flatten k).a.fits 1000000):
  aC EN 139 [.agg [v],.c tv] σ λr σ'=>r=jN 0/\Fr σ σ':=by
 refine aO (jA.o _ _) jA.h ?_
 unfold jA
 dsimp only
 obtain⟨⟨hl,hlt⟩,hc0⟩:=agk hz
 have ha':=ha
 obtain⟨T,hT,hP⟩:=ha'
 have hvk:=hT.kn
 have hvl:=aX.len hT
 have htk:=ht.kn
 have htl:=ht.len
 have hFr:=Fr.refl hW
 have hd:decide ((Int.ofNat 24:Int)<Int.ofNat a.length)=false:=az (by show¬((24:Int)<(a.length:Int));omega)
 have hcf:=λ(args:List V) (σ:St) (K:V->St->Prop)=>lS (E:=EN) (K:=K) (dZ.o args σ) dZ.h
 unfold dZ at hcf
 dsimp only at hcf
 simp(disch:=try exact jz) only[go_sem,hvk,hvl,htk,hd,hcf]
 refine aC.st (Fr σ) (fr) λhF=>?_
 refine(agl hF.wf (aX.fr hW hF hT) (λi hi=>⟨_,aX.len (hP i hi),hlt i hi⟩) jb).mono ?_
 rintro _ σ2 ⟨rfl,hf2⟩
 have hF2:=hF.trans hf2
 have q2:=hf2.get hF.wf (aA _ _ _)
 simp(disch:=try exact jz) only[go_sem,show(Int.ofNat 0<=Int.negSucc 0)=False from propext ⟨λh=>absurd h jj,False.elim⟩,au q2,hvk]
 refine(akz hf2.wf (ha.fr hW hF2) jb hnf).mono ?_
 rintro _ σ3 ⟨⟨u,rfl,hu⟩,hf3⟩
 have hF3:=hF2.trans hf3
 have hul:=aX.len hu
 have huk:=aX.kn hu
 generalize a.flatten=l at*
 simp(disch:=try exact jz) only[go_sem,hul,huk]
 refine aF (λq tm σ'=>∃j,q=l.length-j/\j<=l.length/\Tr.ah tm 1=.c tv/\Tr.ah tm 19=.c u/\Tr.ah tm 20=jN l.length/\Tr.ah tm 21=jN j/\Fr σ3 σ') l.length ?_ ?_
 .refine⟨0,jb,jb,?_⟩
  simp(disch:=try exact jz) only[go_sem,am]
  exact Fr.refl hf3.wf
 .rintro q tm σ' ⟨j,rfl,hj,t1,t19,t20,t21,hf⟩
  simp(disch:=try exact jz) only[go_sem,t1,t19,t20,t21,aG]
  refine aH (λhlt=>?_) (λhlt=>?_)
  .obtain⟨b,o,c,rfl,-,hld⟩:=aX.pos hu jb
   have hld:=hf.ld hf3.wf (hld j hlt)
   unfold Ae at hld
   obtain⟨h1,h2⟩:=agj (hc0 j hlt)
   have hfit:=qE (hfp j hlt) jj
   have hraw:rq (ix l j).a.n (ix l j).a.s (ix l j).a.d=(ix l j).a.q:=rfl
   have hle:=hf.le
   have mJ:=Fr.refl hf.wf
   rcases h1 with⟨e1,e2⟩|⟨k,hk,e1,e2⟩
   .rw[e1,e2]at hld
    have hsg:decide (sg (ix l j).a.q<Int.ofNat 0)=false:=az (h2 e2)
    simp(disch:=try exact jz) only[go_sem,t1,t19,t20,t21,hld,hsg,hraw]
    exact⟨l.length-(j+1),jb,j+1,rfl,jb,rfl,fr⟩
   .rw[e1]at hld e2
    obtain⟨b2,o2,c2,rfl,yY⟩:=HL.one ht jb
    have yY:=(hF3.trans hf).ld hW (yY k hk)
    have hb2:=hf.wf.dA yY
    rw[e2]at yY
    have d1:decide (Int.ofNat k=Int.negSucc 0)=false:=rfl
    have d2:decide (Int.ofNat k<Int.ofNat 0)=false:=az (by show¬((k:Int)<0);omega)
    have d3:decide (Int.ofNat nc<=Int.ofNat k)=false:=az (by show¬((nc:Int)<=(k:Int));omega)
    cases hb:(ix l j).b with
    |true=>
     rw[hb]at hld
     have hsg:decide (sg (ix l j).a.q<Int.ofNat 0)=false:=az (h2 hb)
     simp(disch:=try exact jz) only[go_sem,t1,t19,t20,t21,hld,hsg,hraw,d1,d2,d3,htl,yY]
     exact⟨l.length-(j+1),jb,j+1,rfl,jb,rfl,fr⟩
    |false=>
     rw[hb]at hld
     simp(disch:=try exact jz) only[go_sem,t1,t19,t20,t21,hld,d1,d2,d3,htl,yY]
     exact⟨l.length-(j+1),jb,j+1,rfl,jb,rfl,fr⟩
  .simp(disch:=try exact jz) only[go_sem,am]
   exact hF3.trans hf
def agm{x:C5}(h:OT x=0): -1<=x.h/\x.h<8/\0<=x.r/\x.r<=7/\¬sg x.a.q<0:=by
 unfold OT at h;split at h
 .cases h
 .split at h
  .cases h
  .split at h
   .cases h
   .omega
def agp{e:vP}(h:C9 e=0):e.c.length<=24/\e.a.length<=12/\¬sg e.m.q<0/\(∀i,i<e.c.length->OT (ix e.c i)=0)/\∀k,k<e.a.length->X9 e.c.length (AQ e.a k) (ix e.a k)=0:=by
 unfold C9 at h;split at h
 .cases h
 .split at h
  .cases h
  .split at h
   .next h3=>exact absurd h h3
   .next h1 h2 h3=>exact⟨jb,jb,h2,iP (by simpa using h3),iP h⟩
def tkS(f:Int->Bool)(L:List Int)(l k:Nat):Bool:=f (Int.ofNat k)||(L.take l).contains (Int.ofNat k)
def aoU{n l c:Nat}{f:Int->Bool}{L:List Int}(hl:l<L.length)(hc:ix L l=Int.ofNat c):ones n (aN (λk=>B.bool (tkS f L l k)) c (.bool true))=ones n λk=>.bool (tkS f L (l+1) k):=cO λk _=>by
 unfold aN tkS;rw[bU hl,hc,List.contains_append];by_cases e:k=c
 .subst e;rw[ae rfl];simp
 .rw[ab e];have:([Int.ofNat c].contains (Int.ofNat k))=false:=by simp;omega
  rw[this];simp
def aoV{l:List fD}{j:Nat}(hj:j<l.length)(k:Nat):tkS (AQ l j) (xB (ix l j)) (xB (ix l j)).length k=AQ l (j+1) (Int.ofNat k):=by unfold tkS;rw[cC,afw hj];congr 1;rw[gT,List.contains_iff_mem,sD];exact⟨λh=>h.2,λh=>⟨by show(k:Int)≠-1;omega,h⟩⟩
def axO{σ:St}(hW:WF σ){p:Nat->Prop}{e:vP}{C A:B}(hc:oN p σ.h C e.c)(ha:iG p σ.h A e.a)(hz:C9 e=0)(hm:e.m.fits 1000000)(hfc:∀k,k<e.c.length->(ix e.c k).a.fits 1000000)
  (hA:∀j,j<e.a.length->(ix e.a j).length<=1000/\(ix e.a j).flatten.length<=1000000/\(∀k,k<(ix e.a j).flatten.length->(ix (ix e.a j).flatten k).a.fits 1000000)/\∀t∈ix e.a j,∀x∈t,x.k=-1\/0<=x.k/\x.k<e.c.length):
  aC EN 84 [.agg [.bool e.m.n,.str e.m.s,.str e.m.d,C,A]] σ λr σ'=>r=jN 0/\Fr σ σ':=by
 refine aO (sH.o _ _) sH.h ?_
 unfold sH
 dsimp only
 obtain⟨h1,h2,h3,h4,h5⟩:=agp hz
 have hck:=aX.kn hc
 have hcl:=aX.len hc
 have hak:=ha.kn
 have hal:=ha.choose_spec.1.len
 have hFr:=Fr.refl hW
 have hfit:=qE hm jj
 have hraw:rq e.m.n e.m.s e.m.d=e.m.q:=rfl
 have hsg:decide (sg e.m.q<Int.ofNat 0)=false:=az h3
 have d1:decide ((Int.ofNat 24:Int)<Int.ofNat e.c.length)=false:=az (by show¬((24:Int)<(e.c.length:Int));omega)
 have d2:decide ((Int.ofNat 12:Int)<Int.ofNat e.a.length)=false:=az (by show¬((12:Int)<(e.a.length:Int));omega)
 simp(disch:=try exact jz) only[go_sem,hck,hcl,hak,hal,hsg,hraw,d1,d2]
 refine bM.mono (Q:=λex tm σ'=>ex=.exit 1/\Tr.ah tm 1=.c (.ptr σ.aj 0)/\σ'.h σ.aj=some ⟨[.bool e.m.n,.str e.m.s,.str e.m.d,C,A],none⟩/\Fr σ σ'/\σ.aj+1<=σ'.aj)
  (aF (λq tm σ'=>∃i,q=e.c.length-i/\i<=e.c.length/\Tr.ah tm 1=.c (.ptr σ.aj 0)/\Tr.ah tm 28=.c C/\Tr.ah tm 29=jN e.c.length/\Tr.ah tm 30=jN i/\σ'.h σ.aj=some ⟨[.bool e.m.n,.str e.m.s,.str e.m.d,C,A],none⟩/\Fr σ σ'/\σ.aj+1<=σ'.aj) e.c.length ?_ ?_) ?_
 .refine⟨0,jb,jb,?_⟩
  simp(disch:=try exact jz) only[go_sem,am]
  exact⟨fr,jp⟩
 .rintro q tm σ' ⟨i,rfl,hi,t1,t28,t29,t30,q1,hf,hnx⟩
  simp(disch:=try exact jz) only[go_sem,t1,t28,t29,t30,aG]
  refine aH (λhlt=>?_) (λhlt=>?_)
  .obtain⟨b,o,c,rfl,-,hld⟩:=aX.pos hc jb
   have hld:=hf.ld hW (hld i hlt)
   unfold Xb at hld
   obtain⟨g1,g2,g3,g4,g5⟩:=agm (h4 i hlt)
   have hfit:=qE (hfc i hlt) jj
   have hraw:rq (ix e.c i).a.n (ix e.c i).a.s (ix e.c i).a.d=(ix e.c i).a.q:=rfl
   have hsg:decide (sg (ix e.c i).a.q<Int.ofNat 0)=false:=az g5
   have e1:decide ((ix e.c i).h<Int.negSucc 0)=false:=az (by show¬(ix e.c i).h< -1;omega)
   have e2:decide (Int.ofNat 8<=(ix e.c i).h)=false:=az (by show¬8<=(ix e.c i).h;omega)
   have e3:decide ((ix e.c i).r<Int.ofNat 0)=false:=az (by show¬(ix e.c i).r<0;omega)
   have e4:decide (Int.ofNat 7<(ix e.c i).r)=false:=az (by show¬7<(ix e.c i).r;omega)
   have hle:=hf.le
   have mJ:=Fr.refl hf.wf
   have hl1:=hf.wf.lt q1
   simp(disch:=try exact jz) only[go_sem,t1,t28,t29,t30,hld,hsg,hraw,e1,e2,e3,e4,q1]
   exact⟨e.c.length-(i+1),jb,i+1,rfl,jb,rfl,fr,jb⟩
  .simp(disch:=try exact jz) only[go_sem,am]
   exact⟨t1,q1,hf,hnx⟩
 .rintro _ JJ σ1 ⟨rfl,t1,q1,hf1,hn1⟩
  have hle1:=hf1.le
  have abL:=Fr.refl hf1.wf
  have hl1:=hf1.wf.lt q1
  simp(disch:=try exact jz) only[go_sem,t1,au q1,q1,hck,hcl,hak,hal]
  refine aF (λq tm σ'=>∃j,q=e.a.length-j/\j<=e.a.length/\Tr.ah tm 5=.c (.sl σ1.aj 0 e.c.length (.ex e.c.length))/\Tr.ah tm 63=.c A/\Tr.ah tm 64=jN e.a.length/\Tr.ah tm 65=jN j
   /\σ'.h σ1.aj=some ⟨ones e.c.length λk=>.bool (AQ e.a j (Int.ofNat k)),none⟩/\Fr σ σ'/\σ1.aj+1<=σ'.aj) e.a.length ?_ ?_
  .refine⟨0,jb,jb,?_⟩
   simp(disch:=try exact jz) only[go_sem,am]
   exact⟨rfl,fr,jp⟩
  .rintro q tm σ' ⟨j,rfl,hj,t5,t63,t64,t65,q5,hf,hnx⟩
   simp(disch:=try exact jz) only[go_sem,t5,t63,t64,t65,aG]
   refine aH (λhlt=>?_) (λhlt=>?_)
   .obtain⟨b,o,c,rfl,T,hld,hT⟩:=ha.at hlt
    have hld:=hf.ld hW hld
    obtain⟨a1,a2,a3,a4⟩:=hA j hlt
    have Rl:=hT.kn
    have hle:=hf.le
    have mJ:=Fr.refl hf.wf
    simp(disch:=try exact jz) only[go_sem,t5,t63,t64,t65,hld,Rl]
    refine aC.st (Fr σ') (fr) λhF=>?_
    have q5F:=hF.get hf.wf q5
    have hTF:=hT.fr hW (hf.trans hF)
    refine(axN hF.wf hTF (aX.hl (p:=λ_=>True) (bD (G:=λk=>[.bool (AQ e.a j (Int.ofNat k))]) (.ex e.c.length) q5F rfl trivial (λ_=>rfl) jj λ_ _=>rfl)) jb (h5 j hlt) a2 a3).mono ?_
    rintro _ σ2 ⟨rfl,hf2⟩
    have hF2:=hF.trans hf2
    have q7:=hf2.get hF.wf (aA _ _ _)
    have d0:decide ((0:Int)=Int.ofNat 0)=true:=rfl
    simp(disch:=try exact jz) only[go_sem,au q7,Rl,t5,d0]
    refine(TV hf2.wf (hT.fr hW (hf.trans hF2)) jb a2).mono ?_
    rintro _ σ3 ⟨⟨u,rfl,hu⟩,hf3⟩
    have hF3:=hF2.trans hf3
    have hul:=hu.len
    have huk:=hu.kn
    have q53:=hF3.get hf.wf q5
    have hle3:=hF3.le
    have hle2:=hF2.le
    have hm9:=vH a4
    have hall:=aoV hlt
    have hu2:=hu.hlp (p:=λb=>σ2.aj<=b) (λ_=>rfl) jj (λ_ _=>rfl) λb h1 _=>h1
    have aBm:(xB (ix e.a j)).length<=1000000000:=by rw[<-P8];exact ap (He a4) jb
    generalize xB (ix e.a j)=L at*
    have hz0:ones e.c.length (λk=>B.bool (AQ e.a j (Int.ofNat k)))=ones e.c.length λk=>.bool (tkS (AQ e.a j) L 0 k):=cO λk _=>by unfold tkS;rw[cI];simp
    rw[hz0]at q53
    have Pm:=hf.trans hF3
    simp(disch:=try exact jz) only[go_sem,hul,huk]
    refine bM.mono (Q:=λex tm σ4=>ex=.exit 6/\Tr.ah tm 5=.c (.sl σ1.aj 0 e.c.length (.ex e.c.length))/\Tr.ah tm 63=.c (.sl b o e.a.length c)/\Tr.ah tm 64=jN e.a.length/\Tr.ah tm 65=jN j
     /\σ4.h σ1.aj=some ⟨ones e.c.length λk=>.bool (tkS (AQ e.a j) L L.length k),none⟩/\Fr σ σ4/\σ3.aj<=σ4.aj)
     (aF (λq tm σ4=>∃l,q=L.length-l/\l<=L.length/\Tr.ah tm 5=.c (.sl σ1.aj 0 e.c.length (.ex e.c.length))/\Tr.ah tm 63=.c (.sl b o e.a.length c)/\Tr.ah tm 64=jN e.a.length/\Tr.ah tm 65=jN j/\Tr.ah tm 76=.c u/\Tr.ah tm 77=jN L.length/\Tr.ah tm 78=jN l
     /\σ4.h σ1.aj=some ⟨ones e.c.length λk=>.bool (tkS (AQ e.a j) L l k),none⟩/\Fr σ σ4/\aU [σ1.aj] σ3 σ4) L.length ?_ ?_) ?_
    .refine⟨0,jb,jb,?_⟩
     simp(disch:=try exact jz) only[go_sem,t5,t63,t64,t65,am]
     exact⟨q53,Pm,(Fr.refl hf3.wf).ex _⟩
    .rintro q tm σ4 ⟨l,rfl,hl,t5,t63,t64,t65,t76,t77,t78,q54,hf4,hfe⟩
     simp(disch:=try exact jz) only[go_sem,t5,t63,t64,t65,t76,t77,t78,aG]
     refine aH (λI7=>?_) (λI7=>?_)
     .obtain⟨b7,o7,c7,rfl,hp7,dB⟩:=aX.pos hu2 jb
      have hp7:σ2.aj<=b7:=hp7
      have dB:=hfe.ld hf3.wf (by simp;omega) (dB l I7)
      have dB:=(sU dB).1
      obtain⟨m1,m2⟩:=hm9 _ (mX I7)
      obtain⟨cc,hcc⟩:=cn m1
      have hst:=aoU (n:=e.c.length) (f:=AQ e.a j) I7 hcc
      have azY:ix L l=Int.ofNat cc:=hcc
      have hcn:cc<e.c.length:=jb
      have aBn:=hf4.wf.lt q54
      have pY:=hfe.le
      have FQ:=Fr.refl hf4.wf
      rw[azY]at dB
      simp(disch:=try exact jz) only[go_sem,t5,t63,t64,t65,t76,t77,t78,dB,q54,aI q54,hst]
      exact⟨L.length-(l+1),jb,l+1,rfl,jb,rfl,rfl,fr,by repeat(first|assumption|exact aU.refl (by assumption)|exact aU.up (by assumption) kf|exact aU.up (aU.refl (by assumption)) kf|refine aU.set1 ?_ kg kf|refine aU.lW ?_ kg|refine aU.oG ?_ kg|refine aU.pK ?_ kf)⟩
     .have:l=L.length:=jb
      subst this
      simp(disch:=try exact jz) only[go_sem,am]
      exact⟨t5,t63,t64,t65,q54,hf4,hfe.le⟩
    .rintro _ tm4 σ4 ⟨rfl,t5,t63,t64,t65,q54,hf4,hn4⟩
     simp(disch:=try exact jz) only[go_sem,t5,t63,t64,t65]
     refine⟨e.a.length-(j+1),jb,j+1,rfl,jb,rfl,?_,hf4,jb⟩
     rw[q54]
     exact bO (λl=>some (Bk.mk l none)) (cO λk _=>bO B.bool (hall k))
   .simp(disch:=try exact jz) only[go_sem,am]
    exact hf
def lkC(o:Option Bk)(e j:Int):Option V:=match o with
 |some ⟨c,some (0,0)⟩=>bif JC .i64 e&&JC .i64 j then some (.c (.bool (hasB c e j)))else none
 |_=>none
def upC(o:Option Bk)(e j:Int):Option Bk:=match o with
 |some ⟨c,some (0,0)⟩=>bif JC .i64 e&&(JC .i64 j&&Nat.ble c.length 1000)then some ⟨c++[.int .i64 e,.int .i64 j],some (0,0)⟩else none
 |_=>none
def akA(m k x:O)(tm:Tr V)(σ:St):vM (.UN m k x) tm σ=match m.ev tm,k.ev tm,x.ev tm with
  |.c (.mp b),.agg [.int .i64 e,.int .i64 j],.c (.bool true)=>(match upC (σ.h b) e j with|some k=>some (.und,⟨hset σ.h b k,σ.aj⟩)|none=>none)
  |_,_,_=>none:=by
 simp only[vM]
 generalize m.ev tm=M
 generalize k.ev tm=Y
 generalize x.ev tm=X
 rcases M with⟨_|_|_|_|_|_|_|_|b|_⟩|_|_|_|_|_|_<;>try rfl
 rcases Y with _|l|_|_|_|_|_<;>try rfl
 rcases l with _|⟨p,_|⟨q,_|⟨_,_⟩⟩⟩<;>try rfl
 .cases p<;>try rfl
  next y e=>cases y<;>rfl
 .rcases p with⟨y,e⟩|_|_|_|_|_|_|_|_|_<;>try rfl
  cases y<;>try rfl
  rcases q with⟨y,j⟩|_|_|_|_|_|_|_|_|_<;>try rfl
  cases y<;>try rfl
  rcases X with⟨_|u|_|_|_|_|_|_|_|_⟩|_|_|_|_|_|_<;>try rfl
  cases u<;>try rfl
  dsimp only
  unfold upC
  generalize hg:σ.h.get b=G
  rcases G with _|⟨c,_|⟨u,v⟩⟩<;>try rfl
  cases u<;>try rfl
  cases v<;>try rfl
  cases hQ:JC .i64 e&&(JC .i64 j&&Nat.ble c.length 1000)with
  |true=>simp only[hQ,ck];rfl
  |false=>simp only[hQ,fq]
 .rcases p with⟨y,e⟩|_|_|_|_|_|_|_|_|_<;>try rfl
  cases y<;>try rfl
  rcases q with⟨y,j⟩|_|_|_|_|_|_|_|_|_<;>try rfl
  cases y<;>rfl
section
variable {E:Env} (tm:Tr V) (σ:St) (K:V→St→Prop)
def aoW:wpOp E .KP tm σ K=K (.c (.mp σ.aj)) ⟨hset σ.h σ.aj ⟨[],some (0,0)⟩,σ.aj+1⟩:=by unfold wpOp qw;simp only[wS.kind,vM,lV]
def akB(m k:O):wpOp E (.lookup m k) tm σ K=H8 (match m.ev tm,k.ev tm with|.c (.mp b),.agg [.int .i64 e,.int .i64 j]=>lkC (σ.h b) e j|_,_=>none) λv=>K v σ:=by rw[iF _ _ _ _ (by rfl) λ_ _ h=>by cases h];rfl
def aug(m k x:O):wpOp E (.UN m k x) tm σ K=match m.ev tm,k.ev tm,x.ev tm with
  |.c (.mp b),.agg [.int .i64 e,.int .i64 j],.c (.bool true)=>(match upC (σ.h b) e j with|some k=>K .und ⟨hset σ.h b k,σ.aj⟩|none=>False)
  |_,_,_=>False:=by
 unfold wpOp qw
 simp only[wS.kind,akA]
 generalize m.ev tm=M
 generalize k.ev tm=Y
 generalize x.ev tm=X
 rcases M with⟨_|_|_|_|_|_|_|_|b|_⟩|_|_|_|_|_|_<;>try rfl
 rcases Y with _|l|_|_|_|_|_<;>try rfl
 rcases l with _|⟨p,_|⟨q,_|⟨_,_⟩⟩⟩<;>try rfl
 .cases p<;>try rfl
  next y e=>cases y<;>rfl
 .rcases p with⟨y,e⟩|_|_|_|_|_|_|_|_|_<;>try rfl
  cases y<;>try rfl
  rcases q with⟨y,j⟩|_|_|_|_|_|_|_|_|_<;>try rfl
  cases y<;>try rfl
  rcases X with⟨_|u|_|_|_|_|_|_|_|_⟩|_|_|_|_|_|_<;>try rfl
  cases u<;>try rfl
  dsimp only
  cases upC (σ.h b) e j<;>rfl
 .rcases p with⟨y,e⟩|_|_|_|_|_|_|_|_|_<;>try rfl
  cases y<;>try rfl
  rcases q with⟨y,j⟩|_|_|_|_|_|_|_|_|_<;>try rfl
  cases y<;>rfl
end
def RI:List Ins.Lg->List B
 |[]=>[]
 |x::r=>.int .i64 x.e:: .int .i64 x.k::RI r
def adU:∀(l r:List Ins.Lg),RI (l++r)=RI l++RI r
 |[],_=>rfl
 |x::l,r=>by show _::_::RI (l++r)=_;rw[adU l r];rfl
def akC(l:List Ins.Lg)(x:Ins.Lg):RI l++[.int .i64 x.e,.int .i64 x.k]=RI (l++[x]):=by rw[adU];rfl
def adV:∀l:List Ins.Lg,(RI l).length=2*l.length
 |[]=>rfl
 |x::l=>by show(RI l).length+1+1=_;rw[adV l,bL];omega
def Zi(e j:Int):∀l:List Ins.Lg,hasB (RI l) e j=IQ l ⟨e,j⟩
 |[]=>rfl
 |x::l=>by
  show(bif eqI x.e e&&eqI x.k j then true else hasB (RI l) e j)=(x.e==e&&x.k==j||IQ l ⟨e,j⟩)
  rw[Zi e j l];have h1:eqI x.e e=(x.e==e):=by rw[gT,UQ,beq_iff_eq]
  have h2:eqI x.k j=(x.k==j):=by rw[gT,UQ,beq_iff_eq]
  rw[h1,h2];cases(x.e==e&&x.k==j)<;>rfl
def Nw{n:Nat}(h:n<=9223372036854775807):JC .i64 (.ofNat n)=true:=fa h
def auh(l:List Ins.Lg)(a b:Nat)(ha:a<=9223372036854775807)(hb:b<=9223372036854775807)(hl:l.length<=500):upC (some ⟨RI l,some (0,0)⟩) (.ofNat a) (.ofNat b)=some ⟨RI (l++[⟨.ofNat a,.ofNat b⟩]),some (0,0)⟩:=by have h2:Nat.ble (RI l).length 1000=true:=fa (by rw[adV];omega);show(bif JC .i64 (.ofNat a)&&(JC .i64 (.ofNat b)&&Nat.ble (RI l).length 1000)then _ else none)=_;rw[Nw ha,Nw hb,h2,<-akC];rfl
def aui(l:List Ins.Lg)(a b:Nat)(ha:a<=9223372036854775807)(hb:b<=9223372036854775807):lkC (some ⟨RI l,some (0,0)⟩) (.ofNat a) (.ofNat b)=some (.c (.bool (IQ l ⟨.ofNat a,.ofNat b⟩))):=by show(bif JC .i64 (.ofNat a)&&JC .i64 (.ofNat b)then some (V.c (.bool (hasB (RI l) (.ofNat a) (.ofNat b))))else none)=_;rw[Nw ha,Nw hb,Zi];rfl
attribute [go_sem] aoW akB aug auh aui
def Ud{g:fC}{d k:Nat}(h:aa3 g d k=0):∃a b:Nat,ix (ix g.d d).l k=⟨.ofNat a,.ofNat b⟩/\a<g.e.length/\b<(ix g.e a).c.length/\IQ (oh g.d d k) ⟨.ofNat a,.ofNat b⟩=false/\holdL g.e ⟨.ofNat a,.ofNat b⟩=holdL g.e (ix (ix g.d d).l 0):=by
 unfold aa3 at h;dsimp only at h;split at h
 .cases h
 .next h1=>
  split at h
  .cases h
  .next h2=>
   split at h
   .cases h
   .next h3=>
    generalize ix (ix g.d d).l k=x at*;obtain⟨xe,xk⟩:=x;dsimp only at h1;obtain⟨a,rfl⟩:=cn (show 0<=xe by omega);obtain⟨b,rfl⟩:=cn (show 0<=xk by omega);rw[gi]at h1;exact⟨a,b,rfl,jb,jb,by simpa using h2,by simpa using h3⟩
def abY{l:List qx}{d k:Nat}(hk:k<(ix l d).l.length):oh l d (k+1)=oh l d k++[ix (ix l d).l k]:=by unfold oh;rw[bU hk,ij]
def Qp{l:List qx}{d:Nat}(hd:d<l.length):oh l d (ix l d).l.length=oh l (d+1) 0:=by unfold oh;rw[cC,cI,dx,bU hd,cR];simp
def Ue{σ:St}(hW:WF σ){p:Nat->Prop}{ev dv:B}{g:fC}(hg:qy p σ.h ev dv g){a b:Nat}(ha:a<g.e.length)(hb:b<(ix g.e a).c.length)(hn:g.e.length<=1000)(hc:(ix g.e a).c.length<=1000):
  aC EN 141 [.agg [ev,dv],.agg [.int .i64 (.ofNat a),.int .i64 (.ofNat b)]] σ λr σ'=>r=.c (.int .i64 (holdL g.e ⟨.ofNat a,.ofNat b⟩))/\Fr σ σ':=by
 refine aO (qN.o _ _) qN.h ?_
 unfold qN
 dsimp only
 have hdk:=hg.d.kn
 obtain⟨b5,o5,c5,rfl,C1,A1,bf,-,hC,hA1⟩:=hg.e.at ha
 obtain⟨b8,o8,c8,rfl,-,oQ⟩:=aX.pos hC jb
 have oQ:=oQ b hb
 unfold Xb at oQ
 have l3:=yu bf 3 1 false jj jj
 have l4:=BM oQ 1 false jj jj
 have m2:=hW.dA l3
 have m3:=hW.dA l4
 have hFr:=Fr.refl hW
 simp(disch:=try exact jz) only[go_sem,hdk,l3,l4]
 exact⟨rfl,fr⟩
def auj{σ:St}(hW:WF σ){p p':Nat->Prop}{ev dv:B}{g:fC}(hg:qy p σ.h ev dv g){d mb:Nat}(hp:∀b,p b->b<mb)(hp':∀b,p' b->b<mb){Lv:B}(hL:AU p' σ.h Lv (ix g.d d).l)(hm:σ.h mb=some ⟨RI (oh g.d d 0),some (0,0)⟩)(hz:Ri g d=0)(hw:(ix g.d d).w.fits 1000000)(hn:g.e.length<=1000)(hc:∀i,i<g.e.length->(ix g.e i).c.length<=1000)(hl5:∀k,k<=(ix g.d d).l.length->(oh g.d d k).length<=500):
  aC EN 85 [.agg [ev,dv],.agg [.bool (ix g.d d).w.n,.str (ix g.d d).w.s,.str (ix g.d d).w.d,Lv],.c (.mp mb)] σ λr σ'=>r=jN 0/\σ'.h mb=some ⟨RI (oh g.d d (ix g.d d).l.length),some (0,0)⟩/\aU [mb] σ σ':=by
 refine aO (nU.o _ _) nU.h ?_
 unfold nU
 dsimp only
 unfold Ri at hz
 split at hz
 .cases hz
 .next h1=>
  split at hz
  .cases hz
  .next h2=>
   have h3:=iP hz
   have hek:=hg.e.kn
   have hdk:=hg.d.kn
   have hLk:=aX.kn hL
   have hLl:=aX.len hL
   have hml:=hW.lt hm
   have hFr:=Fr.refl hW
   have hfit:=qE hw jj
   have hraw:rq (ix g.d d).w.n (ix g.d d).w.s (ix g.d d).w.d=(ix g.d d).w.q:=rfl
   have hsg:decide (sg (ix g.d d).w.q<Int.ofNat 0)=false:=az h2
   have d1:decide ((Int.ofNat 8:Int)<Int.ofNat (ix g.d d).l.length)=false:=az (by show¬((8:Int)<((ix g.d d).l.length:Int));omega)
   simp(disch:=try exact jz) only[go_sem,hek,hdk,hLk,hLl,hsg,hraw,d1]
   refine aF (λq tm σ'=>∃k,q=(ix g.d d).l.length-k/\k<=(ix g.d d).l.length/\Tr.ah tm 2=.c (.mp mb)/\Tr.ah tm 3=.c (.ptr σ.aj 0)/\Tr.ah tm 4=.c (.ptr (σ.aj+1) 0)/\Tr.ah tm 20=.c Lv/\Tr.ah tm 21=jN (ix g.d d).l.length/\Tr.ah tm 22=jN k
    /\σ'.h mb=some ⟨RI (oh g.d d k),some (0,0)⟩/\σ'.h σ.aj=some ⟨[ev,dv],none⟩/\σ'.h (σ.aj+1)=some ⟨[.bool (ix g.d d).w.n,.str (ix g.d d).w.s,.str (ix g.d d).w.d,Lv],none⟩/\aU [mb] σ σ'/\σ.aj+1+1<=σ'.aj) (ix g.d d).l.length ?_ ?_
   .refine⟨0,jb,jb,?_⟩
    simp(disch:=try exact jz) only[go_sem,am]
    exact⟨hm,Fr.ex (fr) _,jp⟩
   .rintro q tm σ' ⟨k,rfl,hk,t2,t3,t4,t20,t21,t22,qm,q3,q4,hf,hnx⟩
    simp(disch:=try exact jz) only[go_sem,t2,t3,t4,t20,t21,t22,aG]
    refine aH (λhlt=>?_) (λhlt=>?_)
    .obtain⟨a,b,ex,ha,hb,hh,hho⟩:=Ud (h3 k hlt)
     obtain⟨a0,b0,ex0,ha0,hb0,-,-⟩:=Ud (h3 0 jb)
     have hko:∀b,b<mb->σ'.h b=σ.h b:=λb hb=>hf.old b jb (by simp;omega)
     have hg':qy (Lt mb) σ'.h ev dv g:=hg.keep (λb hb=>hko b (hp b hb)) hp
     have hL':AU (Lt mb) σ'.h Lv (ix g.d d).l:=aX.keep hL (λb hb=>hko b (hp' b hb)) hp'
     obtain⟨b6,o6,c6,rfl,hb6,bJ⟩:=aX.pos hL' jb
     have Zj:=bJ 0 jb
     have bJ:=bJ k hlt
     unfold MH at bJ Zj
     rw[ex]at bJ
     rw[ex0]at Zj
     obtain⟨b5,o5,c5,rfl,C1,A1,bf,-,hC,-⟩:=hg'.e.at ha
     have hCl:=aX.len hC
     obtain⟨b8,o8,c8,rfl,-,-⟩:=aX.pos hC jb
     have l3:=yu bf 3 1 false jj jj
     have m2:=hf.wf.dA l3
     have m6:=hf.wf.dA bJ
     have hnn:=hn
     have hca:=hc a ha
     have azZ:=hc a0 ha0
     have e1:decide (Int.ofNat a<Int.ofNat 0)=false:=az (by show¬((a:Int)<0);omega)
     have e2:decide (Int.ofNat g.e.length<=Int.ofNat a)=false:=az (by show¬((g.e.length:Int)<=(a:Int));omega)
     have e3:decide (Int.ofNat b<Int.ofNat 0)=false:=az (by show¬((b:Int)<0);omega)
     have e4:decide (Int.ofNat (ix g.e a).c.length<=Int.ofNat b)=false:=az (by show¬(((ix g.e a).c.length:Int)<=(b:Int));omega)
     have hle:=hf.le
     have mJ:=Fr.refl hf.wf
     have hlm:=hf.wf.lt qm
     simp(disch:=try exact jz) only[go_sem,t2,t3,t4,t20,t21,t22,bJ,Zj,au q3,au q4,q3,q4,l3,hCl,e1,e2,e3,e4,qm,hh,hek,hdk]
     refine aC.st (Fr σ') (fr) λhF=>?_
     refine(Ue hF.wf (hg'.fr hf.wf hF) ha hb hn hca).mono ?_
     rintro _ σ2 ⟨rfl,hf2⟩
     have hF2:=hF.trans hf2
     have q32:=hF2.get hf.wf q3
     have q42:=hF2.get hf.wf q4
     have q82:=hf2.get hF.wf (aA _ _ _)
     have yY:=hF2.ld hf.wf Zj
     have Zf:=Fr.refl hf2.wf
     simp(disch:=try exact jz) only[go_sem,t2,t3,t4,au q32,au q42,au q82,q32,q42,yY,hek,hdk]
     refine(Ue hf2.wf (hg'.fr hf.wf hF2) ha0 hb0 hn azZ).mono ?_
     rintro _ σ3 ⟨rfl,hf3⟩
     have hF3:=hF2.trans hf3
     have q33:=hF3.get hf.wf q3
     have q43:=hF3.get hf.wf q4
     have q83:=hf3.get hf2.wf q82
     have qm3:=hF3.get hf.wf qm
     have uT:=hF3.ld hf.wf Zj
     have hle3:=hF3.le
     rw[ex0]at hho
     have d5:decide (holdL g.e ⟨.ofNat a,.ofNat b⟩=holdL g.e ⟨.ofNat a0,.ofNat b0⟩)=true:=be hho
     have aBo:=hl5 k hk
     have aAL:(ix g.d d).l.length<=8:=jb
     have hFE:aU [mb] σ σ3:=hf.trans (hF3.ex _)
     have aBp:mb<σ3.aj:=jb
     simp(disch:=try exact jz) only[go_sem,t2,t3,t4,t20,t21,t22,au q33,au q43,au q83,q33,q43,q83,qm3,uT,d5]
     refine⟨(ix g.d d).l.length-(k+1),jb,k+1,rfl,jb,rfl,?_,by repeat(first|assumption|exact aU.refl (by assumption)|exact aU.up (by assumption) kf|exact aU.up (aU.refl (by assumption)) kf|refine aU.set1 ?_ kg kf|refine aU.lW ?_ kg|refine aU.oG ?_ kg|refine aU.pK ?_ kf),jb⟩
     rw[abY hlt,ex]
    .have:k=(ix g.d d).l.length:=jb
     subst this
     simp(disch:=try exact jz) only[go_sem,am]
     exact⟨qm,hf⟩
end Go.Proofs.Xe
