import Derived.Test.YtchhojplceoifaaGreatDoorYd32
set_option linter.all false
set_option maxRecDepth 100000
set_option maxHeartbeats 8000000
namespace Go.Proofs.Xe
open Go.RowKit Go.Proofs.Ins
def Rx(W:Rat)(q r:Nat->Rat)(k:Nat):Rat:=oO W (aB (k+1) q) (aB (k+1) r)-oO W (aB k q) (aB k r)
def abR(W:Rat):oO W 0 0=0:=by grind[oO]
theorem Nv(W:Rat)(q r:Nat->Rat):∀m,aB m (Rx W q r)=oO W (aB m q) (aB m r)
 |0=>(abR W).symm
 |m+1=>by rw[aB,Nv W q r m];unfold Rx;grind
def TV{W:Rat}{q r:fK->Rat}{a:fK}(j:Nat):∀{t:List fK}{Q R:Rat},jo W q r Q R (oO W Q R) (t++[a]) j=jo W q r Q R (oO W Q R) t j+if a.1=j then oO W (Q+aJ t q+q a) (R+aJ t r+r a)-oO W (Q+aJ t q) (R+aJ t r)else 0
 |[],Q,R=>by show(if a.1=j then oO W (Q+q a) (R+r a)-oO W Q R else 0)+0=0+if a.1=j then oO W (Q+0+q a) (R+0+r a)-oO W (Q+0) (R+0)else 0;grind
 |b::t,Q,R=>by rw[fq];unfold jo;rw[TV];show _=_+if a.1=j then oO W (Q+(q b+aJ t q)+q a) (R+(r b+aJ t r)+r a)-oO W (Q+(q b+aJ t q)) (R+(r b+aJ t r))else 0;rw[show Q+(q b+aJ t q)=Q+q b+aJ t q by grind,show R+(r b+aJ t r)=R+r b+aJ t r by grind];grind
section
variable (g:fD) (x:Nat→Rat)
def LW(i c:Nat):Rat:=yI (bY (ix g.e i)) (x i) c
def Qk(j i c:Nat):Rat:=if vP (bI g) j i c then LW g x i c else 0
def Ry(i c j b:Nat):Rat:=if b<i then aB (kE g.e b) (Qk g x j b)else if b=i then aB c (Qk g x j i)else 0
def mgP(t j b:Nat):Rat:=aB (kE g.e b) (Qk g x j b)+aJ ((bI g).ds.take t) (dM (bI g) x j b)
def Ku(t i:Nat)(u:Nat->Rat)(j b:Nat):Rat:=mgP g x t j b+if b<i then dM (bI g) x j b (dW g t,dL g t)else if b=i then u j else 0
def TW(t i k j:Nat):Rat:=jo (dW g t) (gq (bI g) x) (gs (bI g) x i) 0 0 0 ((dL g t).take k) j
def TY(t k:Nat):Rat:=gq (bI g) x (Bd (ix (ix g.d t).l k))
def Jj(t i k:Nat):Rat:=gs (bI g) x i (Bd (ix (ix g.d t).l k))
end
section
variable {g:fD} {x:Nat→Rat}
def akg:Ry g x 0 0=λ_ _=>0:=by funext j b;unfold Ry;rw[ab jb];split<;>rfl
def akh(i:Nat):Ry g x i (kE g.e i)=Ry g x (i+1) 0:=by
 funext j b;unfold Ry;by_cases h:b<i
 .grind
 .rw[ab h];by_cases h2:b=i
  .grind
  .rw[ab h2,ab jb];split<;>rfl
def aoG{i c hh:Nat}(hl:(bI g).fE.contains (i,c)=false)(hk:apH g i c=(hh:Int)):sW (rC (Ry g x i c)) hh i (dY (Ry g x i c hh i+LW g x i c))=rC (Ry g x i (c+1)):=by
 funext j b;have ho:Qk g x j i c=if j=hh then LW g x i c else 0:=by unfold Qk vP;grind[bI,apH]
 grind[sW,rC,Ry,aB]
def Y6{i c:Nat}(h:(bI g).fE.contains (i,c)=true\/apH g i c=-1):Ry g x i c=Ry g x i (c+1):=by
 funext j b;have ho:Qk g x j i c=0:=by unfold Qk vP;grind[bI,apH]
 grind[Ry,aB]
def aoH{n j b:Nat}(hb:b<n):Ry g x n 0 j b=mgP g x 0 j b:=by unfold Ry mgP;rw[ae hb,cH];exact(cV _).symm
def aki(t:Nat):mgP g x t=Ku g x t 0 λ_=>0:=by grind[Ku]
def Ql(t i:Nat):(Ku g x t i λj=>dM (bI g) x j i (dW g t,dL g t))=Ku g x t (i+1) λ_=>0:=by grind[Ku]
theorem akj{t j b:Nat}(h:t<g.d.length):mgP g x (t+1) j b=mgP g x t j b+dM (bI g) x j b (dW g t,dL g t):=by grind[mgP,bU,yL,nN,Qg]
def aoI{t n j b:Nat}(h:t<g.d.length)(hb:b<n):Ku g x t n (λ_=>0) j b=mgP g x (t+1) j b:=by grind[akj,Ku]
def aoJ{j b:Nat}:mgP g x g.d.length j b=gM g.e.length (bI g) x j b:=by unfold mgP gM;rw[<-yL,cB];congr 1;refine aQ λc _=>?_;unfold Qk;have e:gs (bI g) x b (b,c)=LW g x b c:=ae rfl;rw[e]
def akk(t i:Nat):(λ_:Nat=>(0:Rat))=TW g x t i 0:=by rfl
theorem Kv(g:fD)(t:Nat):(dL g t).length=(ix g.d t).l.length:=cw _
theorem akl{t k:Nat}(hk:k<(ix g.d t).l.length):ix (dL g t) k=Bd (ix (ix g.d t).l k):=YV Bd hk
def Wi(f:fK->Rat){t m:Nat}(hm:m<=(ix g.d t).l.length):aB m (λk=>f (Bd (ix (ix g.d t).l k)))=aJ ((dL g t).take m) f:=by grind[Qh,Kv,aQ,akl]
def akm{t i k j:Nat}(hk:k<(ix g.d t).l.length):TW g x t i (k+1) j=TW g x t i k j+if(Bd (ix (ix g.d t).l k)).1=j then Rx (dW g t) (TY g x t) (Jj g x t i) k else 0:=by unfold TW;rw[bU (by grind[Kv]),akl hk];have h:=TV (W:=dW g t) (q:=gq (bI g) x) (r:=gs (bI g) x i) (a:=Bd (ix (ix g.d t).l k)) j (t:=(dL g t).take k) (Q:=0) (R:=0);rw[abR,gx,gx]at h;rw[h];unfold Rx;have e1:∀m,m<=(ix g.d t).l.length->aB m (TY g x t)=aJ ((dL g t).take m) (gq (bI g) x):=λm hm=>Wi (gq (bI g) x) hm;have e2:∀m,m<=(ix g.d t).l.length->aB m (Jj g x t i)=aJ ((dL g t).take m) (gs (bI g) x i):=λm hm=>Wi (gs (bI g) x i) hm;rw[aB,aB,e1 k jb,e2 k jb];rfl
def aoK{t i k e c:Nat}(hk:k<(ix g.d t).l.length)(FN:ix (ix g.d t).l k=⟨.ofNat e,.ofNat c⟩):sW (rC (Ku g x t i (TW g x t i k))) e i (dY (Ku g x t i (TW g x t i k) e i+Rx (dW g t) (TY g x t) (Jj g x t i) k))=rC (Ku g x t i (TW g x t i (k+1))):=by funext j b;have h:=akm (x:=x) (i:=i) (j:=j) hk;rw[FN]at h;have h:TW g x t i (k+1) j=TW g x t i k j+if e=j then Rx (dW g t) (TY g x t) (Jj g x t i) k else 0:=h;grind[sW,rC,Ku]
theorem adN{t i:Nat}(j:Nat):dM (bI g) x j i (dW g t,dL g t)=(if Rj (bI g) (dW g t,dL g t)=(j:Int)then aB (ix g.d t).l.length (Jj g x t i)-aB (ix g.d t).l.length (Rx (dW g t) (TY g x t) (Jj g x t i))else 0)+TW g x t i (ix g.d t).l.length j:=by unfold dM TW;have e1:aB (ix g.d t).l.length (TY g x t)=aJ ((dL g t).take (ix g.d t).l.length) (gq (bI g) x):=Wi (gq (bI g) x) jp;have e2:aB (ix g.d t).l.length (Jj g x t i)=aJ ((dL g t).take (ix g.d t).l.length) (gs (bI g) x i):=Wi (gs (bI g) x i) jp;grind[Nv,Kv]
def aoL{t i hh:Nat}(hd:Rj (bI g) (dW g t,dL g t)=(hh:Int)):sW (rC (Ku g x t i (TW g x t i (ix g.d t).l.length))) hh i (dY (Ku g x t i (TW g x t i (ix g.d t).l.length) hh i+(aB (ix g.d t).l.length (Jj g x t i)-aB (ix g.d t).l.length (Rx (dW g t) (TY g x t) (Jj g x t i)))))=rC (Ku g x t i λj=>dM (bI g) x j i (dW g t,dL g t)):=by grind[sW,rC,Ku,adN]
def Y7{t i:Nat}(hd:Rj (bI g) (dW g t,dL g t)=-1):Ku g x t i (TW g x t i (ix g.d t).l.length)=Ku g x t i λj=>dM (bI g) x j i (dW g t,dL g t):=by
 have e:TW g x t i (ix g.d t).l.length=λj=>dM (bI g) x j i (dW g t,dL g t):=by grind[adN]
 rw[e]
end
structure Wj(D:Nat)(g:fD)(x:Nat->Rat):Prop where
 A:axy D g x
 r:∀i,i<g.e.length->ROk D (bY (ix g.e i)) (x i)
 s:∀i,i<g.e.length->∀c,c<kE g.e i->0<=LW g x i c/\Zk D 1 (LW g x i c)
def Wn{D:Nat}{W:Rat}{q r:fK->Rat}{j:Nat}:∀(t:List fK){Q R B:Rat}{K M:Nat},(∀a∈t,Zk D 1 (r a))->Zk D K R->Zk D K B->K+t.length<=M->Zk D (t.length*(2*M)) (jo W q r Q R B t j)
 |[],_,_,_,_,_,_,_,_,_=>Zk.zero.mono (bp _)
 |a::t,Q,R,B,K,M,hr,hR,hB,hM=>by
  rw[bB]at hM⊢;have ho:Zk D (K+1) (oO W (Q+q a) (R+r a)):=by
   unfold oO;split
   .exact hR.add (hr a kc)
   .exact Zk.zero.mono (bp _)
  have h1:=Wn (W:=W) (q:=q) (j:=j) (Q:=Q+q a) t (λb hb=>hr b (by simp[hb])) (hR.add (hr a kc)) ho (by omega:K+1+t.length<=M);rw[cg,eM];unfold jo;refine Zk.add ?_ h1;split
  .exact(ho.sub hB).mono jb
  .exact Zk.zero.mono (bp _)
section
variable {D:Nat} {g:fD} {x:Nat→Rat}
theorem Wj.gs(h:Wj D g x){t:Nat}(ht:t<g.d.length)(i:Nat):∀a∈dL g t,Zk D 1 (gs (bI g) x i a)/\0<=gs (bI g) x i a:=λa ha=>by
 obtain⟨y,hy,rfl⟩:=cU.mp ha;obtain⟨k,hk,rfl⟩:=aM hy;rw[<-dS hk];obtain⟨e,c,h1,h2,h3⟩:=(h.A.s.l t ht).2 k hk;rw[h1];unfold Ins.gs;obtain⟨h4,h5⟩:=h.s e h2 c h3;split
 .exact⟨h5,h4⟩
 .exact⟨Zk.zero.mono (bp _),aY⟩
def Wj.own(h:Wj D g x){j b c:Nat}(hb:b<g.e.length)(hc:c<kE g.e b):Zk D 1 (Qk g x j b c):=by
 unfold Qk;split
 .exact(h.s b hb c hc).2
 .exact Zk.zero.mono (bp _)
def Wj.A'(h:Wj D g x){i c j b:Nat}(hb:b<g.e.length)(hc:b=i->c<=kE g.e b):Zk D 1000 (Ry g x i c j b):=by
 have hk:=h.A.s.k b hb;unfold Ry;split
 .exact(Zk.Aj λc hc=>h.own hb hc).mono hk
 .split
  .next e=>
   subst e;exact(Zk.Aj λc' hc'=>h.own hb jb).mono jb
  .exact Zk.zero.mono (bp _)
theorem Wj.dM(h:Wj D g x){t:Nat}(ht:t<g.d.length)(j i:Nat):Zk D 2002000 (dM (bI g) x j i (dW g t,dL g t)):=by
 have hl:=(h.A.s.l t ht).1;have hlen:=Kv g t;have hz:Zk D 1000 (aJ (dL g t) (Ins.gs (bI g) x i)):=(VP λa ha=>(h.gs ht i a ha).1).mono jb;have hr:=Wn (W:=dW g t) (q:=gq (bI g) x) (j:=j) (Q:=0) (K:=0) (M:=1000) (dL g t) (λa ha=>(h.gs ht i a ha).1) Zk.zero Zk.zero jb;unfold Ins.dM;refine Zk.mono (Zk.add (k:=2000) (l:=2000000) ?_ (hr.mono ?_)) jb
 .split
  .refine(hz.sub (l:=1000) ?_).mono jb;unfold oO;split
   .exact hz
   .exact Zk.zero.mono (bp _)
  .exact Zk.zero.mono (bp _)
 omega
def Wj.U(h:Wj D g x){t:Nat}(ht:t<g.d.length)(i k j:Nat):Zk D 2002000 (TW g x t i k j):=by have hl:=(h.A.s.l t ht).1;have hlen:=Kv g t;have hr:=Wn (W:=dW g t) (q:=gq (bI g) x) (j:=j) (Q:=0) (K:=0) (M:=1000) ((dL g t).take k) (λa ha=>(h.gs ht i a (eo ha)).1) Zk.zero Zk.zero kd;refine hr.mono ?_;grind
def Wj.P(h:Wj D g x){t j b:Nat}(ht:t<=g.d.length)(hb:b<g.e.length):Zk D 2002001000 (mgP g x t j b):=by
 have hk:=h.A.s.k b hb;have hd:=h.A.s.d;have h1:Zk D 1000 (aB (kE g.e b) (Qk g x j b)):=(Zk.Aj λc hc=>h.own hb hc).mono hk;have h2:∀t,t<=g.d.length->Zk D (t*2002000) (aJ ((bI g).ds.take t) (Ins.dM (bI g) x j b)):=λt=>by
  induction t with
  |zero=>intro _;exact Zk.zero.mono (bp _)
  |succ t ih=>
   intro ht
   rw[bU (by grind[yL]),nN,Qg ht,cg]
   exact(ih jb).add (h.dM ht j b)
 exact(h1.add (h2 t ht)).mono jb
def Wj.D'(h:Wj D g x){t i j b:Nat}{u:Nat->Rat}(ht:t<g.d.length)(hb:b<g.e.length)(hu:Zk D 2002000 (u j)):Zk D 2004003000 (Ku g x t i u j b):=by
 unfold Ku;refine Zk.mono (Zk.add (l:=2002000) (h.P (ik ht) hb) ?_) jb;split
 .exact h.dM ht j b
 .split
  .exact hu
  .exact Zk.zero.mono (bp _)
end
def af8{n:Nat}{tk:Int->Bool}{x:yg}(h:aaV n tk x=0):(x.k=Int.negSucc 0/\x.b=true\/∃c:Nat,c<n/\x.k=Int.ofNat c/\tk x.k=false)/\(x.b=true->¬sg x.a.q<0):=by
 unfold aaV at h;split at h
 .cases h
 .split at h
  .cases h
  .split at h
   .cases h
   .split at h
    .cases h
    .next h1 h2 h3 h4=>
     refine⟨?_,λhb hs=>h3 ⟨hb,hs⟩⟩;by_cases e:x.k=-1
     .refine .inl ⟨e,?_⟩;cases hb:x.b with
      |true=>rfl
      |false=>exact absurd ⟨e,hb⟩ h2
     .obtain⟨c,hc⟩:=ck (show 0<=x.k by omega);refine .inr ⟨c,jb,hc,?_⟩;cases ht:tk x.k with
      |false=>rfl
      |true=>exact absurd ⟨e,ht⟩ h4
def af9{n:Nat}{tk:Int->Bool}{a:fC}(h:X3 n tk a=0):(a.length<=24/\∀i,i<a.length->(ix a i).length<=24)/\∀k,k<a.flatten.length->aaV n tk (ix a.flatten k)=0:=by
 unfold X3 at h;split at h
 .cases h
 .next h1=>
  refine⟨DJ.mp (by simpa using h1),λk hk=>?_⟩;obtain⟨t,ht,hx⟩:=List.mem_flatten.mp (mP hk);obtain⟨i,hi,rfl⟩:=aM ht;obtain⟨j,hj,e⟩:=aM hx;have:=iO (iO h i hi) j (by rw[dS hi];exact hj);rw[dS hi,dS hj,e]at this;exact this
def aga{σ:St}(hW:WF σ){p:Nat->Prop}{v:B}{n:Nat}{T:Nat->B}(hv:aX p σ.h 1 v n λi=>[T i])(hT:∀i,i<n->∃k:Nat,lenV (.c (T i))=some (.c (.int .i64 (.ofNat k)))/\k<=24)(hn:n<=1000):
  aC EN 212 [.c v,.fn 180 []] σ λr σ'=>r=.c (.int .i64 (.negSucc 0))/\Fr σ σ':=by
 refine aP (fU.o _ _) fU.h ?_
 unfold fU
 dsimp only
 have hlen:=aX.len hv
 have hc:=λ(args:List V) (σ:St) (K:V->St->Prop)=>lN (E:=EN) (K:=K) (jf.o args σ) jf.h
 unfold jf at hc
 dsimp only at hc
 simp(disch:=try exact jz) only[go_sem,z3,hlen]
 refine aF (λq tm σ'=>∃j,q=n-j/\j<=n/\Tr.ah tm 0=.c v/\Tr.ah tm 1=.fn 180 []/\Tr.ah tm 7=.c (.int .i64 (.ofNat n))/\Tr.ah tm 8=.c (.int .i64 (.ofNat j))/\Fr σ σ') n ?_ ?_
 .refine⟨0,jb,jb,?_⟩
  simp(disch:=try exact jz) only[go_sem,z3,am]
  exact Fr.refl hW
 .rintro q tm σ' ⟨j,rfl,hj,t0,t1,t7,t8,hf⟩
  simp(disch:=try exact jz) only[go_sem,z3,t0,t1,t7,t8,aG]
  refine aH (λhlt=>?_) (λhlt=>?_)
  .obtain⟨b,o,c,rfl,hld⟩:=HL.one (aX.hl hv) jb
   have hld:=hf.ld hW (hld j hlt)
   obtain⟨k,hk,hk2⟩:=hT j hlt
   have hd:decide ((Int.ofNat 24:Int)<Int.ofNat k)=false:=az (by show¬((24:Int)<(k:Int));omega)
   simp(disch:=try exact jz) only[go_sem,z3,t0,t1,t7,t8,hld,hc,hk,hd]
   exact⟨n-(j+1),jb,j+1,rfl,jb,rfl,hf⟩
  .have:j=n:=jb
   subst this
   simp(disch:=try exact jz) only[go_sem,z3,t0]
   exact hf
def ako{E:Env}[aa0 E]{σ:St}(hW:WF σ){p:Nat->Prop}{v:B}{a:fC}(ha:dP p σ.h v a)(h1:a.length<=1000000)(h2:a.flatten.length<=1000000):
  aC E 181 [.c v] σ λr σ'=>(∃u,r=.c u/\vZ (Lt σ'.aj) σ'.h u a.flatten)/\Fr σ σ':=by
 by_cases h0:a.flatten.length=0
 .rw[YX ha h1 h2 (v':=.c .aO) (σ':=σ) (ae h0)]
  exact⟨⟨_,rfl,.inl ⟨h0,rfl⟩⟩,Fr.refl hW⟩
 .rw[YX ha h1 h2 (ab h0)]
  exact⟨⟨_,rfl,bD _ (aA _ _ _) (CB _ _ jj) (bO _) (λ_=>rfl) jj λ_ _=>rfl⟩,fr⟩
def axz{σ:St}(hW:WF σ){p:Nat->Prop}{v tv:B}{a:fC}{nc:Nat}{tk:Int->Bool}(ha:dP p σ.h v a)(ht:HL σ.h 1 tv nc λi=>[.bool (tk (Int.ofNat i))])(hn:nc<=1000)(hz:X3 nc tk a=0)(hnf:a.flatten.length<=1000000)(hfp:∀k,k<a.flatten.length->(ix a.flatten k).a.fits 1000000):
  aC EN 139 [.agg [v],.c tv] σ λr σ'=>r=.c (.int .i64 (.ofNat 0))/\Fr σ σ':=by
 refine aP (jw.o _ _) jw.h ?_
 unfold jw
 dsimp only
 obtain⟨⟨hl,hlt⟩,hc0⟩:=af9 hz
 have ha':=ha
 obtain⟨T,hT,hP⟩:=ha'
 have hvk:=hT.kn
 have hvl:=aX.len hT
 have htk:=ht.kn
 have htl:=ht.len
 have hFr:=Fr.refl hW
 have hd:decide ((Int.ofNat 24:Int)<Int.ofNat a.length)=false:=az (by show¬((24:Int)<(a.length:Int));omega)
 have hcf:=λ(args:List V) (σ:St) (K:V->St->Prop)=>lN (E:=EN) (K:=K) (dZ.o args σ) dZ.h
 unfold dZ at hcf
 dsimp only at hcf
 simp(disch:=try exact jz) only[go_sem,z3,hvk,hvl,htk,hd,hcf]
 refine aC.st (Fr σ) (fr) λhF=>?_
 refine(aga hF.wf (aX.fr hW hF hT) (λi hi=>⟨_,aX.len (hP i hi),hlt i hi⟩) jb).mono ?_
 rintro _ σ2 ⟨rfl,hf2⟩
 have hF2:=hF.trans hf2
 have q2:=hf2.get hF.wf (aA _ _ _)
 simp(disch:=try exact jz) only[go_sem,z3,show(Int.ofNat 0<=Int.negSucc 0)=False from propext ⟨λh=>absurd h jj,False.elim⟩,au q2,hvk]
 refine(ako hf2.wf (ha.fr hW hF2) jb hnf).mono ?_
 rintro _ σ3 ⟨⟨u,rfl,hu⟩,hf3⟩
 have hF3:=hF2.trans hf3
 have hul:=aX.len hu
 have huk:=aX.kn hu
 generalize a.flatten=l at*
 simp(disch:=try exact jz) only[go_sem,z3,hul,huk]
 refine aF (λq tm σ'=>∃j,q=l.length-j/\j<=l.length/\Tr.ah tm 1=.c tv/\Tr.ah tm 19=.c u/\Tr.ah tm 20=.c (.int .i64 (.ofNat l.length))/\Tr.ah tm 21=.c (.int .i64 (.ofNat j))/\Fr σ3 σ') l.length ?_ ?_
 .refine⟨0,jb,jb,?_⟩
  simp(disch:=try exact jz) only[go_sem,z3,am]
  exact Fr.refl hf3.wf
 .rintro q tm σ' ⟨j,rfl,hj,t1,t19,t20,t21,hf⟩
  simp(disch:=try exact jz) only[go_sem,z3,t1,t19,t20,t21,aG]
  refine aH (λhlt=>?_) (λhlt=>?_)
  .obtain⟨b,o,c,rfl,-,hld⟩:=aX.pos hu jb
   have hld:=hf.ld hf3.wf (hld j hlt)
   unfold zZ at hld
   obtain⟨h1,h2⟩:=af8 (hc0 j hlt)
   have hfit:=qy (hfp j hlt) jj
   have hraw:rq (ix l j).a.n (ix l j).a.s (ix l j).a.d=(ix l j).a.q:=rfl
   have hle:=hf.le
   have lK:=Fr.refl hf.wf
   rcases h1 with⟨e1,e2⟩|⟨k,hk,e1,e2⟩
   .rw[e1,e2]at hld
    have hsg:decide (sg (ix l j).a.q<Int.ofNat 0)=false:=az (h2 e2)
    simp(disch:=try exact jz) only[go_sem,z3,t1,t19,t20,t21,hld,hsg,hraw]
    exact⟨l.length-(j+1),jb,j+1,rfl,jb,rfl,fr⟩
   .rw[e1]at hld e2
    obtain⟨b2,o2,c2,rfl,yR⟩:=HL.one ht jb
    have yR:=(hF3.trans hf).ld hW (yR k hk)
    have hb2:=hf.wf.dw yR
    rw[e2]at yR
    have d1:decide (Int.ofNat k=Int.negSucc 0)=false:=rfl
    have d2:decide (Int.ofNat k<Int.ofNat 0)=false:=az (by show¬((k:Int)<0);omega)
    have d3:decide (Int.ofNat nc<=Int.ofNat k)=false:=az (by show¬((nc:Int)<=(k:Int));omega)
    cases hb:(ix l j).b with
    |true=>
     rw[hb]at hld
     have hsg:decide (sg (ix l j).a.q<Int.ofNat 0)=false:=az (h2 hb)
     simp(disch:=try exact jz) only[go_sem,z3,t1,t19,t20,t21,hld,hsg,hraw,d1,d2,d3,htl,yR]
     exact⟨l.length-(j+1),jb,j+1,rfl,jb,rfl,fr⟩
    |false=>
     rw[hb]at hld
     simp(disch:=try exact jz) only[go_sem,z3,t1,t19,t20,t21,hld,d1,d2,d3,htl,yR]
     exact⟨l.length-(j+1),jb,j+1,rfl,jb,rfl,fr⟩
  .simp(disch:=try exact jz) only[go_sem,z3,am]
   exact hF3.trans hf
def agb{x:C5}(h:OQ x=0): -1<=x.h/\x.h<8/\0<=x.r/\x.r<=7/\¬sg x.a.q<0:=by
 unfold OQ at h;split at h
 .cases h
 .split at h
  .cases h
  .split at h
   .cases h
   .omega
def agc{e:vM}(h:CV e=0):e.c.length<=24/\e.a.length<=12/\¬sg e.m.q<0/\(∀i,i<e.c.length->OQ (ix e.c i)=0)/\∀k,k<e.a.length->X3 e.c.length (AA e.a k) (ix e.a k)=0:=by
 unfold CV at h;split at h
 .cases h
 .split at h
  .cases h
  .split at h
   .next h3=>exact absurd h h3
   .next h1 h2 h3=>exact⟨jb,jb,h2,iO (by simpa using h3),iO h⟩
def tkS(f:Int->Bool)(L:List Int)(l k:Nat):Bool:=f (Int.ofNat k)||(L.take l).contains (Int.ofNat k)
def aoM{n l c:Nat}{f:Int->Bool}{L:List Int}(hl:l<L.length)(hc:ix L l=Int.ofNat c):ones n (aN (λk=>B.bool (tkS f L l k)) c (.bool true))=ones n λk=>.bool (tkS f L (l+1) k):=dB λk _=>by
 unfold aN tkS;rw[bU hl,hc,List.contains_append];by_cases e:k=c
 .subst e;rw[ae rfl];simp
 .rw[ab e];have:([Int.ofNat c].contains (Int.ofNat k))=false:=by simp;omega
  rw[this];simp
def aoN{l:List fC}{j:Nat}(hj:j<l.length)(k:Nat):tkS (AA l j) (xg (ix l j)) (xg (ix l j)).length k=AA l (j+1) (Int.ofNat k):=by unfold tkS;rw[cB,afo hj];congr 1;rw[gS,List.contains_iff_mem,rX];exact⟨λh=>h.2,λh=>⟨by show(k:Int)≠-1;omega,h⟩⟩
def axA{σ:St}(hW:WF σ){p:Nat->Prop}{e:vM}{C A:B}(hc:oL p σ.h C e.c)(ha:iG p σ.h A e.a)(hz:CV e=0)(hm:e.m.fits 1000000)(hfc:∀k,k<e.c.length->(ix e.c k).a.fits 1000000)
  (hA:∀j,j<e.a.length->(ix e.a j).length<=1000/\(ix e.a j).flatten.length<=1000000/\(∀k,k<(ix e.a j).flatten.length->(ix (ix e.a j).flatten k).a.fits 1000000)/\∀t∈ix e.a j,∀x∈t,x.k=-1\/0<=x.k/\x.k<e.c.length):
  aC EN 84 [.agg [.bool e.m.n,.str e.m.s,.str e.m.d,C,A]] σ λr σ'=>r=.c (.int .i64 (.ofNat 0))/\Fr σ σ':=by
 refine aP (rZ.o _ _) rZ.h ?_
 unfold rZ
 dsimp only
 obtain⟨h1,h2,h3,h4,h5⟩:=agc hz
 have hck:=aX.kn hc
 have hcl:=aX.len hc
 have hak:=ha.kn
 have hal:=ha.choose_spec.1.len
 have hFr:=Fr.refl hW
 have hfit:=qy hm jj
 have hraw:rq e.m.n e.m.s e.m.d=e.m.q:=rfl
 have hsg:decide (sg e.m.q<Int.ofNat 0)=false:=az h3
 have d1:decide ((Int.ofNat 24:Int)<Int.ofNat e.c.length)=false:=az (by show¬((24:Int)<(e.c.length:Int));omega)
 have d2:decide ((Int.ofNat 12:Int)<Int.ofNat e.a.length)=false:=az (by show¬((12:Int)<(e.a.length:Int));omega)
 simp(disch:=try exact jz) only[go_sem,z3,hck,hcl,hak,hal,hsg,hraw,d1,d2]
 refine bM.mono (Q:=λex tm σ'=>ex=.exit 1/\Tr.ah tm 1=.c (.ptr σ.aj 0)/\σ'.h σ.aj=some ⟨[.bool e.m.n,.str e.m.s,.str e.m.d,C,A],none⟩/\Fr σ σ'/\σ.aj+1<=σ'.aj)
  (aF (λq tm σ'=>∃i,q=e.c.length-i/\i<=e.c.length/\Tr.ah tm 1=.c (.ptr σ.aj 0)/\Tr.ah tm 28=.c C/\Tr.ah tm 29=.c (.int .i64 (.ofNat e.c.length))/\Tr.ah tm 30=.c (.int .i64 (.ofNat i))/\σ'.h σ.aj=some ⟨[.bool e.m.n,.str e.m.s,.str e.m.d,C,A],none⟩/\Fr σ σ'/\σ.aj+1<=σ'.aj) e.c.length ?_ ?_) ?_
 .refine⟨0,jb,jb,?_⟩
  simp(disch:=try exact jz) only[go_sem,z3,am]
  exact⟨fr,jp⟩
 .rintro q tm σ' ⟨i,rfl,hi,t1,t28,t29,t30,q1,hf,hnx⟩
  simp(disch:=try exact jz) only[go_sem,z3,t1,t28,t29,t30,aG]
  refine aH (λhlt=>?_) (λhlt=>?_)
  .obtain⟨b,o,c,rfl,-,hld⟩:=aX.pos hc jb
   have hld:=hf.ld hW (hld i hlt)
   unfold WW at hld
   obtain⟨g1,g2,g3,g4,g5⟩:=agb (h4 i hlt)
   have hfit:=qy (hfc i hlt) jj
   have hraw:rq (ix e.c i).a.n (ix e.c i).a.s (ix e.c i).a.d=(ix e.c i).a.q:=rfl
   have hsg:decide (sg (ix e.c i).a.q<Int.ofNat 0)=false:=az g5
   have e1:decide ((ix e.c i).h<Int.negSucc 0)=false:=az (by show¬(ix e.c i).h< -1;omega)
   have e2:decide (Int.ofNat 8<=(ix e.c i).h)=false:=az (by show¬8<=(ix e.c i).h;omega)
   have e3:decide ((ix e.c i).r<Int.ofNat 0)=false:=az (by show¬(ix e.c i).r<0;omega)
   have e4:decide (Int.ofNat 7<(ix e.c i).r)=false:=az (by show¬7<(ix e.c i).r;omega)
   have hle:=hf.le
   have lK:=Fr.refl hf.wf
   have hl1:=hf.wf.lt q1
   simp(disch:=try exact jz) only[go_sem,z3,t1,t28,t29,t30,hld,hsg,hraw,e1,e2,e3,e4,q1]
   exact⟨e.c.length-(i+1),jb,i+1,rfl,jb,rfl,fr,jb⟩
  .simp(disch:=try exact jz) only[go_sem,z3,am]
   exact⟨t1,q1,hf,hnx⟩
 .rintro _ JG σ1 ⟨rfl,t1,q1,hf1,hn1⟩
  have hle1:=hf1.le
  have abE:=Fr.refl hf1.wf
  have hl1:=hf1.wf.lt q1
  simp(disch:=try exact jz) only[go_sem,z3,t1,au q1,q1,hck,hcl,hak,hal]
  refine aF (λq tm σ'=>∃j,q=e.a.length-j/\j<=e.a.length/\Tr.ah tm 5=.c (.sl σ1.aj 0 e.c.length (.ex e.c.length))/\Tr.ah tm 63=.c A/\Tr.ah tm 64=.c (.int .i64 (.ofNat e.a.length))/\Tr.ah tm 65=.c (.int .i64 (.ofNat j))
   /\σ'.h σ1.aj=some ⟨ones e.c.length λk=>.bool (AA e.a j (Int.ofNat k)),none⟩/\Fr σ σ'/\σ1.aj+1<=σ'.aj) e.a.length ?_ ?_
  .refine⟨0,jb,jb,?_⟩
   simp(disch:=try exact jz) only[go_sem,z3,am]
   exact⟨rfl,fr,jp⟩
  .rintro q tm σ' ⟨j,rfl,hj,t5,t63,t64,t65,q5,hf,hnx⟩
   simp(disch:=try exact jz) only[go_sem,z3,t5,t63,t64,t65,aG]
   refine aH (λhlt=>?_) (λhlt=>?_)
   .obtain⟨b,o,c,rfl,T,hld,hT⟩:=ha.at hlt
    have hld:=hf.ld hW hld
    obtain⟨a1,a2,a3,a4⟩:=hA j hlt
    have Pg:=hT.kn
    have hle:=hf.le
    have lK:=Fr.refl hf.wf
    simp(disch:=try exact jz) only[go_sem,z3,t5,t63,t64,t65,hld,Pg]
    refine aC.st (Fr σ') (fr) λhF=>?_
    have q5F:=hF.get hf.wf q5
    have hTF:=hT.fr hW (hf.trans hF)
    refine(axz hF.wf hTF (aX.hl (p:=λ_=>True) (bD (G:=λk=>[.bool (AA e.a j (Int.ofNat k))]) (.ex e.c.length) q5F rfl trivial (λ_=>rfl) jj λ_ _=>rfl)) jb (h5 j hlt) a2 a3).mono ?_
    rintro _ σ2 ⟨rfl,hf2⟩
    have hF2:=hF.trans hf2
    have q7:=hf2.get hF.wf (aA _ _ _)
    have d0:decide ((0:Int)=Int.ofNat 0)=true:=rfl
    simp(disch:=try exact jz) only[go_sem,z3,au q7,Pg,t5,d0]
    refine(TP hf2.wf (hT.fr hW (hf.trans hF2)) jb a2).mono ?_
    rintro _ σ3 ⟨⟨u,rfl,hu⟩,hf3⟩
    have hF3:=hF2.trans hf3
    have hul:=hu.len
    have huk:=hu.kn
    have q53:=hF3.get hf.wf q5
    have hle3:=hF3.le
    have hle2:=hF2.le
    have hm9:=vC a4
    have hall:=aoN hlt
    have hu2:=hu.hlp (p:=λb=>σ2.aj<=b) (λ_=>rfl) jj (λ_ _=>rfl) λb h1 _=>h1
    have aBa:(xg (ix e.a j)).length<=1000000000:=by rw[<-P6];exact ap (GV a4) jb
    generalize xg (ix e.a j)=L at*
    have hz0:ones e.c.length (λk=>B.bool (AA e.a j (Int.ofNat k)))=ones e.c.length λk=>.bool (tkS (AA e.a j) L 0 k):=dB λk _=>by unfold tkS;rw[cH];simp
    rw[hz0]at q53
    have JX:=hf.trans hF3
    simp(disch:=try exact jz) only[go_sem,z3,hul,huk]
    refine bM.mono (Q:=λex tm σ4=>ex=.exit 6/\Tr.ah tm 5=.c (.sl σ1.aj 0 e.c.length (.ex e.c.length))/\Tr.ah tm 63=.c (.sl b o e.a.length c)/\Tr.ah tm 64=.c (.int .i64 (.ofNat e.a.length))/\Tr.ah tm 65=.c (.int .i64 (.ofNat j))
     /\σ4.h σ1.aj=some ⟨ones e.c.length λk=>.bool (tkS (AA e.a j) L L.length k),none⟩/\Fr σ σ4/\σ3.aj<=σ4.aj)
     (aF (λq tm σ4=>∃l,q=L.length-l/\l<=L.length/\Tr.ah tm 5=.c (.sl σ1.aj 0 e.c.length (.ex e.c.length))/\Tr.ah tm 63=.c (.sl b o e.a.length c)/\Tr.ah tm 64=.c (.int .i64 (.ofNat e.a.length))/\Tr.ah tm 65=.c (.int .i64 (.ofNat j))/\Tr.ah tm 76=.c u/\Tr.ah tm 77=.c (.int .i64 (.ofNat L.length))/\Tr.ah tm 78=.c (.int .i64 (.ofNat l))
     /\σ4.h σ1.aj=some ⟨ones e.c.length λk=>.bool (tkS (AA e.a j) L l k),none⟩/\Fr σ σ4/\aU [σ1.aj] σ3 σ4) L.length ?_ ?_) ?_
    .refine⟨0,jb,jb,?_⟩
     simp(disch:=try exact jz) only[go_sem,z3,t5,t63,t64,t65,am]
     exact⟨q53,JX,(Fr.refl hf3.wf).ex _⟩
    .rintro q tm σ4 ⟨l,rfl,hl,t5,t63,t64,t65,t76,t77,t78,q54,hf4,hfe⟩
     simp(disch:=try exact jz) only[go_sem,z3,t5,t63,t64,t65,t76,t77,t78,aG]
     refine aH (λIZ=>?_) (λIZ=>?_)
     .obtain⟨b7,o7,c7,rfl,hp7,dA⟩:=aX.pos hu2 jb
      have hp7:σ2.aj<=b7:=hp7
      have dA:=hfe.ld hf3.wf (by simp;omega) (dA l IZ)
      have dA:=(sK dA).1
      obtain⟨m1,m2⟩:=hm9 _ (mP IZ)
      obtain⟨cc,hcc⟩:=ck m1
      have hst:=aoM (n:=e.c.length) (f:=AA e.a j) IZ hcc
      have azL:ix L l=Int.ofNat cc:=hcc
      have hcn:cc<e.c.length:=jb
      have aBb:=hf4.wf.lt q54
      have oM:=hfe.le
      have FH:=Fr.refl hf4.wf
      rw[azL]at dA
      simp(disch:=try exact jz) only[go_sem,z3,t5,t63,t64,t65,t76,t77,t78,dA,q54,aI q54,hst]
      exact⟨L.length-(l+1),jb,l+1,rfl,jb,rfl,rfl,fr,by repeat(first|assumption|exact aU.refl (by assumption)|exact aU.up (by assumption) kf|exact aU.up (aU.refl (by assumption)) kf|refine aU.set1 ?_ kg kf|refine aU.lU ?_ kg|refine aU.oD ?_ kg|refine aU.pG ?_ kf)⟩
     .have:l=L.length:=jb
      subst this
      simp(disch:=try exact jz) only[go_sem,z3,am]
      exact⟨t5,t63,t64,t65,q54,hf4,hfe.le⟩
    .rintro _ tm4 σ4 ⟨rfl,t5,t63,t64,t65,q54,hf4,hn4⟩
     simp(disch:=try exact jz) only[go_sem,z3,t5,t63,t64,t65]
     refine⟨e.a.length-(j+1),jb,j+1,rfl,jb,rfl,?_,hf4,jb⟩
     rw[q54]
     exact bN (λl=>some (Bk.mk l none)) (dB λk _=>bN B.bool (hall k))
   .simp(disch:=try exact jz) only[go_sem,z3,am]
    exact hf
def lkC(o:Option Bk)(e j:Int):Option V:=match o with
 |some ⟨c,some (0,0)⟩=>bif Jz .i64 e&&Jz .i64 j then some (.c (.bool (hasB c e j)))else none
 |_=>none
def upC(o:Option Bk)(e j:Int):Option Bk:=match o with
 |some ⟨c,some (0,0)⟩=>bif Jz .i64 e&&(Jz .i64 j&&Nat.ble c.length 1000)then some ⟨c++[.int .i64 e,.int .i64 j],some (0,0)⟩else none
 |_=>none
def akp(m k x:O)(tm:Tr V)(σ:St):vH (.UL m k x) tm σ=match m.ev tm,k.ev tm,x.ev tm with
  |.c (.mp b),.agg [.int .i64 e,.int .i64 j],.c (.bool true)=>(match upC (σ.h b) e j with|some k=>some (.und,⟨hset σ.h b k,σ.aj⟩)|none=>none)
  |_,_,_=>none:=by
 simp only[vH]
 generalize m.ev tm=M
 generalize k.ev tm=Y
 generalize x.ev tm=X
 rcases M with⟨_|_|_|_|_|_|_|_|b|_⟩|_|_|_|_|_|_<;>try rfl
 rcases Y with _|l|_|_|_|_|_<;>try rfl
 rcases l with _|⟨p,_|⟨q,_|⟨_,_⟩⟩⟩<;>try rfl
 .cases p<;>try rfl
  next y e=>cases y<;>rfl
 .rcases p with⟨y,e⟩|_|_|_|_|_|_|_|_|_<;>try rfl
  cases y<;>try rfl
  rcases q with⟨y,j⟩|_|_|_|_|_|_|_|_|_<;>try rfl
  cases y<;>try rfl
  rcases X with⟨_|u|_|_|_|_|_|_|_|_⟩|_|_|_|_|_|_<;>try rfl
  cases u<;>try rfl
  dsimp only
  unfold upC
  generalize hg:σ.h.get b=G
  rcases G with _|⟨c,_|⟨u,v⟩⟩<;>try rfl
  cases u<;>try rfl
  cases v<;>try rfl
  cases hQ:Jz .i64 e&&(Jz .i64 j&&Nat.ble c.length 1000)with
  |true=>simp only[hQ,cj];rfl
  |false=>simp only[hQ,fm]
 .rcases p with⟨y,e⟩|_|_|_|_|_|_|_|_|_<;>try rfl
  cases y<;>try rfl
  rcases q with⟨y,j⟩|_|_|_|_|_|_|_|_|_<;>try rfl
  cases y<;>rfl
section
variable {E:Env} (tm:Tr V) (σ:St) (K:V→St→Prop)
def aoO:wpOp E .KO tm σ K=K (.c (.mp σ.aj)) ⟨hset σ.h σ.aj ⟨[],some (0,0)⟩,σ.aj+1⟩:=by unfold wpOp qh;simp only[wM.kind,vH,lT]
def akq(m k:O):wpOp E (.lookup m k) tm σ K=Hu (match m.ev tm,k.ev tm with|.c (.mp b),.agg [.int .i64 e,.int .i64 j]=>lkC (σ.h b) e j|_,_=>none) λv=>K v σ:=by rw[iF _ _ _ _ (by rfl) λ_ _ h=>by cases h];rfl
def atY(m k x:O):wpOp E (.UL m k x) tm σ K=match m.ev tm,k.ev tm,x.ev tm with
  |.c (.mp b),.agg [.int .i64 e,.int .i64 j],.c (.bool true)=>(match upC (σ.h b) e j with|some k=>K .und ⟨hset σ.h b k,σ.aj⟩|none=>False)
  |_,_,_=>False:=by
 unfold wpOp qh
 simp only[wM.kind,akp]
 generalize m.ev tm=M
 generalize k.ev tm=Y
 generalize x.ev tm=X
 rcases M with⟨_|_|_|_|_|_|_|_|b|_⟩|_|_|_|_|_|_<;>try rfl
 rcases Y with _|l|_|_|_|_|_<;>try rfl
 rcases l with _|⟨p,_|⟨q,_|⟨_,_⟩⟩⟩<;>try rfl
 .cases p<;>try rfl
  next y e=>cases y<;>rfl
 .rcases p with⟨y,e⟩|_|_|_|_|_|_|_|_|_<;>try rfl
  cases y<;>try rfl
  rcases q with⟨y,j⟩|_|_|_|_|_|_|_|_|_<;>try rfl
  cases y<;>try rfl
  rcases X with⟨_|u|_|_|_|_|_|_|_|_⟩|_|_|_|_|_|_<;>try rfl
  cases u<;>try rfl
  dsimp only
  cases upC (σ.h b) e j<;>rfl
 .rcases p with⟨y,e⟩|_|_|_|_|_|_|_|_|_<;>try rfl
  cases y<;>try rfl
  rcases q with⟨y,j⟩|_|_|_|_|_|_|_|_|_<;>try rfl
  cases y<;>rfl
end
def Rz:List Ins.Lg->List B
 |[]=>[]
 |x::r=>.int .i64 x.e:: .int .i64 x.k::Rz r
def adO:∀(l r:List Ins.Lg),Rz (l++r)=Rz l++Rz r
 |[],_=>rfl
 |x::l,r=>by show _::_::Rz (l++r)=_;rw[adO l r];rfl
def akr(l:List Ins.Lg)(x:Ins.Lg):Rz l++[.int .i64 x.e,.int .i64 x.k]=Rz (l++[x]):=by rw[adO];rfl
def adP:∀l:List Ins.Lg,(Rz l).length=2*l.length
 |[]=>rfl
 |x::l=>by show(Rz l).length+1+1=_;rw[adP l,bB];omega
def Y8(e j:Int):∀l:List Ins.Lg,hasB (Rz l) e j=IJ l ⟨e,j⟩
 |[]=>rfl
 |x::l=>by
  show(bif eqI x.e e&&eqI x.k j then true else hasB (Rz l) e j)=(x.e==e&&x.k==j||IJ l ⟨e,j⟩)
  rw[Y8 e j l];have h1:eqI x.e e=(x.e==e):=by rw[gS,UN,beq_iff_eq]
  have h2:eqI x.k j=(x.k==j):=by rw[gS,UN,beq_iff_eq]
  rw[h1,h2];cases(x.e==e&&x.k==j)<;>rfl
def Nw{n:Nat}(h:n<=9223372036854775807):Jz .i64 (.ofNat n)=true:=eZ h
def atZ(l:List Ins.Lg)(a b:Nat)(ha:a<=9223372036854775807)(hb:b<=9223372036854775807)(hl:l.length<=500):upC (some ⟨Rz l,some (0,0)⟩) (.ofNat a) (.ofNat b)=some ⟨Rz (l++[⟨.ofNat a,.ofNat b⟩]),some (0,0)⟩:=by have h2:Nat.ble (Rz l).length 1000=true:=eZ (by rw[adP];omega);show(bif Jz .i64 (.ofNat a)&&(Jz .i64 (.ofNat b)&&Nat.ble (Rz l).length 1000)then _ else none)=_;rw[Nw ha,Nw hb,h2,<-akr];rfl
def at1(l:List Ins.Lg)(a b:Nat)(ha:a<=9223372036854775807)(hb:b<=9223372036854775807):lkC (some ⟨Rz l,some (0,0)⟩) (.ofNat a) (.ofNat b)=some (.c (.bool (IJ l ⟨.ofNat a,.ofNat b⟩))):=by show(bif Jz .i64 (.ofNat a)&&Jz .i64 (.ofNat b)then some (V.c (.bool (hasB (Rz l) (.ofNat a) (.ofNat b))))else none)=_;rw[Nw ha,Nw hb,Y8];rfl
attribute [go_sem] aoO akq atY atZ at1
def Ua{g:fD}{d k:Nat}(h:aaW g d k=0):∃a b:Nat,ix (ix g.d d).l k=⟨.ofNat a,.ofNat b⟩/\a<g.e.length/\b<(ix g.e a).c.length/\IJ (nY g.d d k) ⟨.ofNat a,.ofNat b⟩=false/\holdL g.e ⟨.ofNat a,.ofNat b⟩=holdL g.e (ix (ix g.d d).l 0):=by
 unfold aaW at h;dsimp only at h;split at h
 .cases h
 .next h1=>
  split at h
  .cases h
  .next h2=>
   split at h
   .cases h
   .next h3=>
    generalize ix (ix g.d d).l k=x at*;obtain⟨xe,xk⟩:=x;dsimp only at h1;obtain⟨a,rfl⟩:=ck (show 0<=xe by omega);obtain⟨b,rfl⟩:=ck (show 0<=xk by omega);rw[gh]at h1;exact⟨a,b,rfl,jb,jb,by simpa using h2,by simpa using h3⟩
def abS{l:List qj}{d k:Nat}(hk:k<(ix l d).l.length):nY l d (k+1)=nY l d k++[ix (ix l d).l k]:=by unfold nY;rw[bU hk,ii]
def Qm{l:List qj}{d:Nat}(hd:d<l.length):nY l d (ix l d).l.length=nY l (d+1) 0:=by unfold nY;rw[cB,cH,dt,bU hd,cP];simp
def Ub{σ:St}(hW:WF σ){p:Nat->Prop}{ev dv:B}{g:fD}(hg:rW p σ.h ev dv g){a b:Nat}(ha:a<g.e.length)(hb:b<(ix g.e a).c.length)(hn:g.e.length<=1000)(hc:(ix g.e a).c.length<=1000):
  aC EN 141 [.agg [ev,dv],.agg [.int .i64 (.ofNat a),.int .i64 (.ofNat b)]] σ λr σ'=>r=.c (.int .i64 (holdL g.e ⟨.ofNat a,.ofNat b⟩))/\Fr σ σ':=by
 refine aP (qI.o _ _) qI.h ?_
 unfold qI
 dsimp only
 have hdk:=hg.d.kn
 obtain⟨b5,o5,c5,rfl,C1,A1,bf,-,hC,hA1⟩:=hg.e.at ha
 obtain⟨b8,o8,c8,rfl,-,oP⟩:=aX.pos hC jb
 have oP:=oP b hb
 unfold WW at oP
 have l3:=yc bf 3 1 false jj jj
 have l4:=BF oP 1 false jj jj
 have m2:=hW.dw l3
 have m3:=hW.dw l4
 have hFr:=Fr.refl hW
 simp(disch:=try exact jz) only[go_sem,z3,hdk,l3,l4]
 exact⟨rfl,fr⟩
def at6{σ:St}(hW:WF σ){p p':Nat->Prop}{ev dv:B}{g:fD}(hg:rW p σ.h ev dv g){d mb:Nat}(hp:∀b,p b->b<mb)(hp':∀b,p' b->b<mb){Lv:B}(hL:AB p' σ.h Lv (ix g.d d).l)(hm:σ.h mb=some ⟨Rz (nY g.d d 0),some (0,0)⟩)(hz:Q8 g d=0)(hw:(ix g.d d).w.fits 1000000)(hn:g.e.length<=1000)(hc:∀i,i<g.e.length->(ix g.e i).c.length<=1000)(hl5:∀k,k<=(ix g.d d).l.length->(nY g.d d k).length<=500):
  aC EN 85 [.agg [ev,dv],.agg [.bool (ix g.d d).w.n,.str (ix g.d d).w.s,.str (ix g.d d).w.d,Lv],.c (.mp mb)] σ λr σ'=>r=.c (.int .i64 (.ofNat 0))/\σ'.h mb=some ⟨Rz (nY g.d d (ix g.d d).l.length),some (0,0)⟩/\aU [mb] σ σ':=by
 refine aP (nS.o _ _) nS.h ?_
 unfold nS
 dsimp only
 unfold Q8 at hz
 split at hz
 .cases hz
 .next h1=>
  split at hz
  .cases hz
  .next h2=>
   have h3:=iO hz
   have hek:=hg.e.kn
   have hdk:=hg.d.kn
   have hLk:=aX.kn hL
   have hLl:=aX.len hL
   have hml:=hW.lt hm
   have hFr:=Fr.refl hW
   have hfit:=qy hw jj
   have hraw:rq (ix g.d d).w.n (ix g.d d).w.s (ix g.d d).w.d=(ix g.d d).w.q:=rfl
   have hsg:decide (sg (ix g.d d).w.q<Int.ofNat 0)=false:=az h2
   have d1:decide ((Int.ofNat 8:Int)<Int.ofNat (ix g.d d).l.length)=false:=az (by show¬((8:Int)<((ix g.d d).l.length:Int));omega)
   simp(disch:=try exact jz) only[go_sem,z3,hek,hdk,hLk,hLl,hsg,hraw,d1]
   refine aF (λq tm σ'=>∃k,q=(ix g.d d).l.length-k/\k<=(ix g.d d).l.length/\Tr.ah tm 2=.c (.mp mb)/\Tr.ah tm 3=.c (.ptr σ.aj 0)/\Tr.ah tm 4=.c (.ptr (σ.aj+1) 0)/\Tr.ah tm 20=.c Lv/\Tr.ah tm 21=.c (.int .i64 (.ofNat (ix g.d d).l.length))/\Tr.ah tm 22=.c (.int .i64 (.ofNat k))
    /\σ'.h mb=some ⟨Rz (nY g.d d k),some (0,0)⟩/\σ'.h σ.aj=some ⟨[ev,dv],none⟩/\σ'.h (σ.aj+1)=some ⟨[.bool (ix g.d d).w.n,.str (ix g.d d).w.s,.str (ix g.d d).w.d,Lv],none⟩/\aU [mb] σ σ'/\σ.aj+1+1<=σ'.aj) (ix g.d d).l.length ?_ ?_
   .refine⟨0,jb,jb,?_⟩
    simp(disch:=try exact jz) only[go_sem,z3,am]
    exact⟨hm,Fr.ex (fr) _,jp⟩
   .rintro q tm σ' ⟨k,rfl,hk,t2,t3,t4,t20,t21,t22,qm,q3,q4,hf,hnx⟩
    simp(disch:=try exact jz) only[go_sem,z3,t2,t3,t4,t20,t21,t22,aG]
    refine aH (λhlt=>?_) (λhlt=>?_)
    .obtain⟨a,b,ex,ha,hb,hh,hho⟩:=Ua (h3 k hlt)
     obtain⟨a0,b0,ex0,ha0,hb0,-,-⟩:=Ua (h3 0 jb)
     have hko:∀b,b<mb->σ'.h b=σ.h b:=λb hb=>hf.old b jb (by simp;omega)
     have hg':rW (Lt mb) σ'.h ev dv g:=hg.keep (λb hb=>hko b (hp b hb)) hp
     have hL':AB (Lt mb) σ'.h Lv (ix g.d d).l:=aX.keep hL (λb hb=>hko b (hp' b hb)) hp'
     obtain⟨b6,o6,c6,rfl,hb6,bK⟩:=aX.pos hL' jb
     have Y9:=bK 0 jb
     have bK:=bK k hlt
     unfold MJ at bK Y9
     rw[ex]at bK
     rw[ex0]at Y9
     obtain⟨b5,o5,c5,rfl,C1,A1,bf,-,hC,-⟩:=hg'.e.at ha
     have hCl:=aX.len hC
     obtain⟨b8,o8,c8,rfl,-,-⟩:=aX.pos hC jb
     have l3:=yc bf 3 1 false jj jj
     have m2:=hf.wf.dw l3
     have m6:=hf.wf.dw bK
     have hnn:=hn
     have hca:=hc a ha
     have azM:=hc a0 ha0
     have e1:decide (Int.ofNat a<Int.ofNat 0)=false:=az (by show¬((a:Int)<0);omega)
     have e2:decide (Int.ofNat g.e.length<=Int.ofNat a)=false:=az (by show¬((g.e.length:Int)<=(a:Int));omega)
     have e3:decide (Int.ofNat b<Int.ofNat 0)=false:=az (by show¬((b:Int)<0);omega)
     have e4:decide (Int.ofNat (ix g.e a).c.length<=Int.ofNat b)=false:=az (by show¬(((ix g.e a).c.length:Int)<=(b:Int));omega)
     have hle:=hf.le
     have lK:=Fr.refl hf.wf
     have hlm:=hf.wf.lt qm
     simp(disch:=try exact jz) only[go_sem,z3,t2,t3,t4,t20,t21,t22,bK,Y9,au q3,au q4,q3,q4,l3,hCl,e1,e2,e3,e4,qm,hh,hek,hdk]
     refine aC.st (Fr σ') (fr) λhF=>?_
     refine(Ub hF.wf (hg'.fr hf.wf hF) ha hb hn hca).mono ?_
     rintro _ σ2 ⟨rfl,hf2⟩
     have hF2:=hF.trans hf2
     have q32:=hF2.get hf.wf q3
     have q42:=hF2.get hf.wf q4
     have q82:=hf2.get hF.wf (aA _ _ _)
     have yR:=hF2.ld hf.wf Y9
     have V7:=Fr.refl hf2.wf
     simp(disch:=try exact jz) only[go_sem,z3,t2,t3,t4,au q32,au q42,au q82,q32,q42,yR,hek,hdk]
     refine(Ub hf2.wf (hg'.fr hf.wf hF2) ha0 hb0 hn azM).mono ?_
     rintro _ σ3 ⟨rfl,hf3⟩
     have hF3:=hF2.trans hf3
     have q33:=hF3.get hf.wf q3
     have q43:=hF3.get hf.wf q4
     have q83:=hf3.get hf2.wf q82
     have qm3:=hF3.get hf.wf qm
     have uP:=hF3.ld hf.wf Y9
     have hle3:=hF3.le
     rw[ex0]at hho
     have d5:decide (holdL g.e ⟨.ofNat a,.ofNat b⟩=holdL g.e ⟨.ofNat a0,.ofNat b0⟩)=true:=be hho
     have aBd:=hl5 k hk
     have aAA:(ix g.d d).l.length<=8:=jb
     have hFE:aU [mb] σ σ3:=hf.trans (hF3.ex _)
     have aBe:mb<σ3.aj:=jb
     simp(disch:=try exact jz) only[go_sem,z3,t2,t3,t4,t20,t21,t22,au q33,au q43,au q83,q33,q43,q83,qm3,uP,d5]
     refine⟨(ix g.d d).l.length-(k+1),jb,k+1,rfl,jb,rfl,?_,by repeat(first|assumption|exact aU.refl (by assumption)|exact aU.up (by assumption) kf|exact aU.up (aU.refl (by assumption)) kf|refine aU.set1 ?_ kg kf|refine aU.lU ?_ kg|refine aU.oD ?_ kg|refine aU.pG ?_ kf),jb⟩
     rw[abS hlt,ex]
    .have:k=(ix g.d d).l.length:=jb
     subst this
     simp(disch:=try exact jz) only[go_sem,z3,am]
     exact⟨qm,hf⟩
end Go.Proofs.Xe
