import Derived.Test.YtjhhfbbndfpdaaaGreatDoorYg34
set_option linter.all false
set_option maxRecDepth 100000
set_option maxHeartbeats 8000000
attribute [-go_sem] Go.Proofs.Xe.ayo Go.Proofs.Xe.ayp Go.Proofs.Xe.ayq
namespace Go.Proofs.Xe
open Go.RowKit Go.Proofs.Ins
def TV(W:Rat)(q r:Nat->Rat)(k:Nat):Rat:=pR W (aB (k+1) q) (aB (k+1) r)-pR W (aB k q) (aB k r)
def acY(W:Rat):pR W 0 0=0:=by grind[pR]
theorem OA(W:Rat)(q r:Nat->Rat):∀m,aB m (TV W q r)=pR W (aB m q) (aB m r)
 |0=>(acY W).symm
 |m+1=>by rw[aB,OA W q r m];unfold TV;grind
def Vh{W:Rat}{q r:gJ->Rat}{a:gJ}(j:Nat):∀{t:List gJ}{Q R:Rat},jF W q r Q R (pR W Q R) (t++[a]) j=jF W q r Q R (pR W Q R) t j+if a.1=j then pR W (Q+aK t q+q a) (R+aK t r+r a)-pR W (Q+aK t q) (R+aK t r)else 0
 |[],Q,R=>by show(if a.1=j then pR W (Q+q a) (R+r a)-pR W Q R else 0)+0=0+if a.1=j then pR W (Q+0+q a) (R+0+r a)-pR W (Q+0) (R+0)else 0;grind
 |b::t,Q,R=>by rw[fi];unfold jF;rw[Vh];show _=_+if a.1=j then pR W (Q+(q b+aK t q)+q a) (R+(r b+aK t r)+r a)-pR W (Q+(q b+aK t q)) (R+(r b+aK t r))else 0;rw[show Q+(q b+aK t q)=Q+q b+aK t q by grind,show R+(r b+aK t r)=R+r b+aK t r by grind];grind
section
variable (g:fH) (x:Nat→Rat)
def ND(i c:Nat):Rat:=yT (bZ (ix g.e i)) (x i) c
def RI(j i c:Nat):Rat:=if wB (bI g) j i c then ND g x i c else 0
def TW(i c j b:Nat):Rat:=if b<i then aB (kE g.e b) (RI g x j b)else if b=i then aB c (RI g x j i)else 0
def mgP(t j b:Nat):Rat:=aB (kE g.e b) (RI g x j b)+aK ((bI g).ds.take t) (dM (bI g) x j b)
def LK(t i:Nat)(u:Nat->Rat)(j b:Nat):Rat:=mgP g x t j b+if b<i then dM (bI g) x j b (dW g t,dL g t)else if b=i then u j else 0
def Vj(t i k j:Nat):Rat:=jF (dW g t) (gq (bI g) x) (gs (bI g) x i) 0 0 0 ((dL g t).take k) j
def Vk(t k:Nat):Rat:=gq (bI g) x (BD (ix (ix g.d t).l k))
def JR(t i k:Nat):Rat:=gs (bI g) x i (BD (ix (ix g.d t).l k))
end
section
variable {g:fH} {x:Nat→Rat}
def alv:TW g x 0 0=λ_ _=>0:=by funext j b;unfold TW;rw[ae jb];split<;>rfl
def alx(i:Nat):TW g x i (kE g.e i)=TW g x (i+1) 0:=by
 funext j b;unfold TW;by_cases h:b<i
 .grind
 .rw[ae h];by_cases h2:b=i
  .grind
  .rw[ae h2,ae jb];split<;>rfl
def ap6{i c hh:Nat}(hl:(bI g).fP.contains (i,c)=false)(hk:apH g i c=(hh:Int)):ug (rC (TW g x i c)) hh i (dP (TW g x i c hh i+ND g x i c))=rC (TW g x i (c+1)):=by
 funext j b;have ho:RI g x j i c=if j=hh then ND g x i c else 0:=by unfold RI wB;grind[bI,apH]
 grind[ug,rC,TW,aB]
def aar{i c:Nat}(h:(bI g).fP.contains (i,c)=true\/apH g i c=-1):TW g x i c=TW g x i (c+1):=by
 funext j b;have ho:RI g x j i c=0:=by unfold RI wB;grind[bI,apH]
 grind[TW,aB]
def ap7{n j b:Nat}(hb:b<n):TW g x n 0 j b=mgP g x 0 j b:=by unfold TW mgP;rw[ab hb,cH];exact(cN _).symm
def aly(t:Nat):mgP g x t=LK g x t 0 λ_=>0:=by grind[LK]
def RJ(t i:Nat):(LK g x t i λj=>dM (bI g) x j i (dW g t,dL g t))=LK g x t (i+1) λ_=>0:=by grind[LK]
theorem alz{t j b:Nat}(h:t<g.d.length):mgP g x (t+1) j b=mgP g x t j b+dM (bI g) x j b (dW g t,dL g t):=by grind[mgP,bU,yX,oq,Ry]
def ap8{t n j b:Nat}(h:t<g.d.length)(hb:b<n):LK g x t n (λ_=>0) j b=mgP g x (t+1) j b:=by grind[alz,LK]
def ap9{j b:Nat}:mgP g x g.d.length j b=gM g.e.length (bI g) x j b:=by unfold mgP gM;rw[<-yX,cr];congr 1;refine aP λc _=>?_;unfold RI;have e:gs (bI g) x b (b,c)=ND g x b c:=ab rfl;rw[e]
def alA(t i:Nat):(λ_:Nat=>(0:Rat))=Vj g x t i 0:=by rfl
theorem LM(g:fH)(t:Nat):(dL g t).length=(ix g.d t).l.length:=cn _
theorem alB{t k:Nat}(hk:k<(ix g.d t).l.length):ix (dL g t) k=BD (ix (ix g.d t).l k):=aah BD hk
def XA(f:gJ->Rat){t m:Nat}(hm:m<=(ix g.d t).l.length):aB m (λk=>f (BD (ix (ix g.d t).l k)))=aK ((dL g t).take m) f:=by grind[Rz,LM,aP,alB]
def alC{t i k j:Nat}(hk:k<(ix g.d t).l.length):Vj g x t i (k+1) j=Vj g x t i k j+if(BD (ix (ix g.d t).l k)).1=j then TV (dW g t) (Vk g x t) (JR g x t i) k else 0:=by unfold Vj;rw[bU (by grind[LM]),alB hk];have h:=Vh (W:=dW g t) (q:=gq (bI g) x) (r:=gs (bI g) x i) (a:=BD (ix (ix g.d t).l k)) j (t:=(dL g t).take k) (Q:=0) (R:=0);rw[acY,fW,fW]at h;rw[h];unfold TV;have e1:∀m,m<=(ix g.d t).l.length->aB m (Vk g x t)=aK ((dL g t).take m) (gq (bI g) x):=λm hm=>XA (gq (bI g) x) hm;have e2:∀m,m<=(ix g.d t).l.length->aB m (JR g x t i)=aK ((dL g t).take m) (gs (bI g) x i):=λm hm=>XA (gs (bI g) x i) hm;rw[aB,aB,e1 k jb,e2 k jb];rfl
def aqa{t i k e c:Nat}(hk:k<(ix g.d t).l.length)(Gj:ix (ix g.d t).l k=⟨.ofNat e,.ofNat c⟩):ug (rC (LK g x t i (Vj g x t i k))) e i (dP (LK g x t i (Vj g x t i k) e i+TV (dW g t) (Vk g x t) (JR g x t i) k))=rC (LK g x t i (Vj g x t i (k+1))):=by funext j b;have h:=alC (x:=x) (i:=i) (j:=j) hk;rw[Gj]at h;have h:Vj g x t i (k+1) j=Vj g x t i k j+if e=j then TV (dW g t) (Vk g x t) (JR g x t i) k else 0:=h;grind[ug,rC,LK]
theorem ae3{t i:Nat}(j:Nat):dM (bI g) x j i (dW g t,dL g t)=(if TJ (bI g) (dW g t,dL g t)=(j:Int)then aB (ix g.d t).l.length (JR g x t i)-aB (ix g.d t).l.length (TV (dW g t) (Vk g x t) (JR g x t i))else 0)+Vj g x t i (ix g.d t).l.length j:=by unfold dM Vj;have e1:aB (ix g.d t).l.length (Vk g x t)=aK ((dL g t).take (ix g.d t).l.length) (gq (bI g) x):=XA (gq (bI g) x) jp;have e2:aB (ix g.d t).l.length (JR g x t i)=aK ((dL g t).take (ix g.d t).l.length) (gs (bI g) x i):=XA (gs (bI g) x i) jp;grind[OA,LM]
def aqb{t i hh:Nat}(hd:TJ (bI g) (dW g t,dL g t)=(hh:Int)):ug (rC (LK g x t i (Vj g x t i (ix g.d t).l.length))) hh i (dP (LK g x t i (Vj g x t i (ix g.d t).l.length) hh i+(aB (ix g.d t).l.length (JR g x t i)-aB (ix g.d t).l.length (TV (dW g t) (Vk g x t) (JR g x t i)))))=rC (LK g x t i λj=>dM (bI g) x j i (dW g t,dL g t)):=by grind[ug,rC,LK,ae3]
def aas{t i:Nat}(hd:TJ (bI g) (dW g t,dL g t)=-1):LK g x t i (Vj g x t i (ix g.d t).l.length)=LK g x t i λj=>dM (bI g) x j i (dW g t,dL g t):=by
 have e:Vj g x t i (ix g.d t).l.length=λj=>dM (bI g) x j i (dW g t,dL g t):=by grind[ae3]
 rw[e]
end
structure XB(D:Nat)(g:fH)(x:Nat->Rat):Prop where
 A:azt D g x
 r:∀i,i<g.e.length->ROk D (bZ (ix g.e i)) (x i)
 s:∀i,i<g.e.length->∀c,c<kE g.e i->0<=ND g x i c/\Zk D 1 (ND g x i c)
def XC{D:Nat}{W:Rat}{q r:gJ->Rat}{j:Nat}:∀(t:List gJ){Q R B:Rat}{K M:Nat},(∀a∈t,Zk D 1 (r a))->Zk D K R->Zk D K B->K+t.length<=M->Zk D (t.length*(2*M)) (jF W q r Q R B t j)
 |[],_,_,_,_,_,_,_,_,_=>Zk.zero.mono (aM _)
 |a::t,Q,R,B,K,M,hr,hR,hB,hM=>by
  rw[bL]at hM⊢;have ho:Zk D (K+1) (pR W (Q+q a) (R+r a)):=by
   unfold pR;split
   .exact hR.add (hr a kc)
   .exact Zk.zero.mono (aM _)
  have h1:=XC (W:=W) (q:=q) (j:=j) (Q:=Q+q a) t (λb hb=>hr b (by simp[hb])) (hR.add (hr a kc)) ho (by omega:K+1+t.length<=M);rw[cj,dC];unfold jF;refine Zk.add ?_ h1;split
  .exact(ho.sub hB).mono jb
  .exact Zk.zero.mono (aM _)
section
variable {D:Nat} {g:fH} {x:Nat→Rat}
theorem XB.gs(h:XB D g x){t:Nat}(ht:t<g.d.length)(i:Nat):∀a∈dL g t,Zk D 1 (gs (bI g) x i a)/\0<=gs (bI g) x i a:=λa ha=>by
 obtain⟨y,hy,rfl⟩:=cT.mp ha;obtain⟨k,hk,rfl⟩:=aD hy;rw[<-dV hk];obtain⟨e,c,h1,h2,h3⟩:=(h.A.s.l t ht).2 k hk;rw[h1];unfold Ins.gs;obtain⟨h4,h5⟩:=h.s e h2 c h3;split
 .exact⟨h5,h4⟩
 .exact⟨Zk.zero.mono (aM _),aR⟩
def XB.own(h:XB D g x){j b c:Nat}(hb:b<g.e.length)(hc:c<kE g.e b):Zk D 1 (RI g x j b c):=by
 unfold RI;split
 .exact(h.s b hb c hc).2
 .exact Zk.zero.mono (aM _)
def XB.A'(h:XB D g x){i c j b:Nat}(hb:b<g.e.length)(hc:b=i->c<=kE g.e b):Zk D 1000 (TW g x i c j b):=by
 have hk:=h.A.s.k b hb;unfold TW;split
 .exact(Zk.AB λc hc=>h.own hb hc).mono hk
 .split
  .next e=>
   subst e;exact(Zk.AB λc' hc'=>h.own hb jb).mono jb
  .exact Zk.zero.mono (aM _)
theorem XB.dM(h:XB D g x){t:Nat}(ht:t<g.d.length)(j i:Nat):Zk D 2002000 (dM (bI g) x j i (dW g t,dL g t)):=by
 have hl:=(h.A.s.l t ht).1;have hlen:=LM g t;have hz:Zk D 1000 (aK (dL g t) (Ins.gs (bI g) x i)):=(Xh λa ha=>(h.gs ht i a ha).1).mono jb;have hr:=XC (W:=dW g t) (q:=gq (bI g) x) (j:=j) (Q:=0) (K:=0) (M:=1000) (dL g t) (λa ha=>(h.gs ht i a ha).1) Zk.zero Zk.zero jb;unfold Ins.dM;refine Zk.mono (Zk.add (k:=2000) (l:=2000000) ?_ (hr.mono ?_)) jb
 .split
  .refine(hz.sub (l:=1000) ?_).mono jb;unfold pR;split
   .exact hz
   .exact Zk.zero.mono (aM _)
  .exact Zk.zero.mono (aM _)
 omega
def XB.U(h:XB D g x){t:Nat}(ht:t<g.d.length)(i k j:Nat):Zk D 2002000 (Vj g x t i k j):=by have hl:=(h.A.s.l t ht).1;have hlen:=LM g t;have hr:=XC (W:=dW g t) (q:=gq (bI g) x) (j:=j) (Q:=0) (K:=0) (M:=1000) ((dL g t).take k) (λa ha=>(h.gs ht i a (eg ha)).1) Zk.zero Zk.zero kd;refine hr.mono ?_;grind
def XB.P(h:XB D g x){t j b:Nat}(ht:t<=g.d.length)(hb:b<g.e.length):Zk D 2002001000 (mgP g x t j b):=by
 have hk:=h.A.s.k b hb;have hd:=h.A.s.d;have h1:Zk D 1000 (aB (kE g.e b) (RI g x j b)):=(Zk.AB λc hc=>h.own hb hc).mono hk;have h2:∀t,t<=g.d.length->Zk D (t*2002000) (aK ((bI g).ds.take t) (Ins.dM (bI g) x j b)):=λt=>by
  induction t with
  |zero=>intro _;exact Zk.zero.mono (aM _)
  |succ t ih=>
   intro ht
   rw[bU (by grind[yX]),oq,Ry ht,cj]
   exact(ih jb).add (h.dM ht j b)
 exact(h1.add (h2 t ht)).mono jb
def XB.D'(h:XB D g x){t i j b:Nat}{u:Nat->Rat}(ht:t<g.d.length)(hb:b<g.e.length)(hu:Zk D 2002000 (u j)):Zk D 2004003000 (LK g x t i u j b):=by
 unfold LK;refine Zk.mono (Zk.add (l:=2002000) (h.P (it ht) hb) ?_) jb;split
 .exact h.dM ht j b
 .split
  .exact hu
  .exact Zk.zero.mono (aM _)
end
def ahr{n:Nat}{tk:Int->Bool}{x:yF}(h:abY n tk x=0):(x.k=Int.negSucc 0/\x.b=true\/∃c:Nat,c<n/\x.k=Int.ofNat c/\tk x.k=false)/\(x.b=true->¬sg x.a.q<0):=by
 unfold abY at h;split at h
 .cases h
 .split at h
  .cases h
  .split at h
   .cases h
   .split at h
    .cases h
    .next h1 h2 h3 h4=>
     refine⟨?_,λhb hs=>h3 ⟨hb,hs⟩⟩;by_cases e:x.k=-1
     .refine .inl ⟨e,?_⟩;cases hb:x.b with
      |true=>rfl
      |false=>exact absurd ⟨e,hb⟩ h2
     .obtain⟨c,hc⟩:=cw (show 0<=x.k by omega);refine .inr ⟨c,jb,hc,?_⟩;cases ht:tk x.k with
      |false=>rfl
      |true=>exact absurd ⟨e,ht⟩ h4
def ahs{n:Nat}{tk:Int->Bool}{a:fD}(h:Zc n tk a=0):(a.length<=24/\∀i,i<a.length->(ix a i).length<=24)/\∀k,k<a.flatten.length->abY n tk (ix a.flatten k)=0:=by
 unfold Zc at h;split at h
 .cases h
 .next h1=>
  refine⟨Eo.mp (by simpa using h1),λk hk=>?_⟩;obtain⟨t,ht,hx⟩:=List.mem_flatten.mp (ni hk);obtain⟨i,hi,rfl⟩:=aD ht;obtain⟨j,hj,e⟩:=aD hx;have:=iU (iU h i hi) j (by rw[dV hi];exact hj);rw[dV hi,dV hj,e]at this;exact this
theorem aht {J:St} (hW:WF J) {p:Nat→Prop} {v:B} {n:Nat} {T:Nat→B} (hv:aZ p J.h 1 v n fun i=>[T i]) (hT : ∀ i,i<n→∃ k:Nat,lenV (.c (T i))=some (.c (.int .i64 (.ofNat k)))∧k≤24) (hn:n≤1000) :
  aC EN 144 [.c v,.fn 104 []] J fun r J'=>r = .c (.int .i64 (.negSucc 0))∧Fr J J':=by
 refine aN (gu.o _ _) gu.h ?_
 unfold gu
 dsimp only
 have hlen:=aZ.len hv
 have hc:=fun (args:List V) (J:St) (K:V→St→Prop)=>lW (E:=EN) (K:=K) (jq.o args J) jq.h
 unfold jq at hc
 dsimp only at hc
 simp (disch:=try exact jz) only [go_sem,z3,hlen]
 refine aF (fun q tm J'=>∃ j,q=n - j∧j≤n∧r8 tm 0 = .c v∧r8 tm 1 = .fn 104 []∧r8 tm 7 = .c (.int .i64 (.ofNat n))∧r8 tm 8 = .c (.int .i64 (.ofNat j))∧Fr J J') n ?_ ?_
 ·refine ⟨0,jb,jb,?_⟩
  simp (disch:=try exact jz) only [go_sem,z3,true_and]
  exact Fr.refl hW
 ·rintro q tm J' ⟨j,rfl,hj,t0,t1,t7,t8,hf⟩
  simp (disch:=try exact jz) only [go_sem,z3,t0,t1,t7,t8,aA]
  refine aH (fun hlt=>?_) (fun hlt=>?_)
  ·obtain ⟨b,o,c,rfl,hld⟩:=HL.one (aZ.hl hv) jb
   have hld:=hf.ld hW (hld j hlt)
   obtain ⟨k,hk,hk2⟩:=hT j hlt
   have hd:decide ((Int.ofNat 24:Int)<Int.ofNat k)=false:=decide_eq_false (by show ¬ ((24:Int)<(k:Int));omega)
   simp (disch:=try exact jz) only [go_sem,z3,t0,t1,t7,t8,hld,hc,hk,hd]
   exact ⟨n - (j+1),jb,j+1,rfl,jb,rfl,hf⟩
  ·have:j=n:=jb
   subst this
   simp (disch:=try exact jz) only [go_sem,z3,t0]
   exact hf
def alE{E:Env}[ab4 E]{J:St}(hW:WF J){p:Nat->Prop}{v:B}{a:fD}(ha:dR p J.h v a)(h1:a.length<=1000000)(h2:a.flatten.length<=1000000):
  aC E 105 [.c v] J λr J'=>(∃u,r=.c u/\wO (Lt J'.aj) J'.h u a.flatten)/\Fr J J':=by
 by_cases h0:a.flatten.length=0
 .rw[aaj ha h1 h2 (v':=.c .aO) (J':=J) (ab h0)]
  exact⟨⟨_,rfl,.inl ⟨h0,rfl⟩⟩,Fr.refl hW⟩
 .rw[aaj ha h1 h2 (ae h0)]
  exact⟨⟨_,rfl,bD _ (ay _ _ _) (Bd _ _ jj) (bB _) (λ_=>rfl) jj λ_ _=>rfl⟩,fr⟩
theorem azu {J:St} (hW:WF J) {p:Nat→Prop} {v tv:B} {a:fD} {nc:Nat} {tk:Int→Bool} (ha:dR p J.h v a) (ht:HL J.h 1 tv nc fun i=>[.bool (tk (Int.ofNat i))]) (hn:nc≤1000) (hz:Zc nc tk a=0) (hnf:a.flatten.length≤1000000) (hfp : ∀ k,k<a.flatten.length→(ix a.flatten k).a.fits 1000000) :
  aC EN 68 [.agg [v],.c tv] J fun r J'=>r = .c (.int .i64 (.ofNat 0))∧Fr J J':=by
 refine aN (jJ.o _ _) jJ.h ?_
 unfold jJ
 dsimp only
 obtain ⟨⟨hl,hlt⟩,hc0⟩:=ahs hz
 have ha':=ha
 obtain ⟨T,hT,hP⟩:=ha'
 have hvk:=hT.kn
 have hvl:=aZ.len hT
 have htk:=ht.kn
 have htl:=ht.len
 have hFr:=Fr.refl hW
 have hd:decide ((Int.ofNat 24:Int)<Int.ofNat a.length)=false:=decide_eq_false (by show ¬ ((24:Int)<(a.length:Int));omega)
 have hcf:=fun (args:List V) (J:St) (K:V→St→Prop)=>lW (E:=EN) (K:=K) (eH.o args J) eH.h
 unfold eH at hcf
 dsimp only at hcf
 simp (disch:=try exact jz) only [go_sem,z3,hvk,hvl,htk,hd,hcf]
 refine aC.st (Fr J) (fr) fun hF=>?_
 refine (aht hF.wf (aZ.fr hW hF hT) (fun i hi=>⟨_,aZ.len (hP i hi),hlt i hi⟩) jb).mono ?_
 rintro _ σ2 ⟨rfl,hf2⟩
 have hF2:=hF.trans hf2
 have q2:=hf2.get hF.wf (ay _ _ _)
 simp (disch:=try exact jz) only [go_sem,z3,show (Int.ofNat 0≤Int.negSucc 0)=False from propext ⟨fun h=>absurd h jj,False.elim⟩,au q2,hvk]
 refine (alE hf2.wf (ha.fr hW hF2) jb hnf).mono ?_
 rintro _ σ3 ⟨⟨u,rfl,hu⟩,hf3⟩
 have hF3:=hF2.trans hf3
 have hul:=aZ.len hu
 have huk:=aZ.kn hu
 generalize a.flatten=l at *
 simp (disch:=try exact jz) only [go_sem,z3,hul,huk]
 refine aF (fun q tm J'=>∃ j,q=l.length - j∧j≤l.length∧r8 tm 1 = .c tv∧r8 tm 19 = .c u∧r8 tm 20 = .c (.int .i64 (.ofNat l.length))∧r8 tm 21 = .c (.int .i64 (.ofNat j))∧Fr σ3 J') l.length ?_ ?_
 ·refine ⟨0,jb,jb,?_⟩
  simp (disch:=try exact jz) only [go_sem,z3,true_and]
  exact Fr.refl hf3.wf
 ·rintro q tm J' ⟨j,rfl,hj,t1,t19,t20,t21,hf⟩
  simp (disch:=try exact jz) only [go_sem,z3,t1,t19,t20,t21,aA]
  refine aH (fun hlt=>?_) (fun hlt=>?_)
  ·obtain ⟨b,o,c,rfl,-,hld⟩:=aZ.pos hu jb
   have hld:=hf.ld hf3.wf (hld j hlt)
   unfold Aq at hld
   obtain ⟨h1,h2⟩:=ahr (hc0 j hlt)
   have hfit:=qP (hfp j hlt) jj
   have hraw:rq (ix l j).a.n (ix l j).a.s (ix l j).a.d=(ix l j).a.q:=rfl
   have hle:=hf.le
   have lT:=Fr.refl hf.wf
   rcases h1 with ⟨e1,e2⟩|⟨k,hk,e1,e2⟩
   ·rw [e1,e2] at hld
    have hsg:decide (sg (ix l j).a.q<Int.ofNat 0)=false:=decide_eq_false (h2 e2)
    simp (disch:=try exact jz) only [go_sem,z3,t1,t19,t20,t21,hld,hsg,hraw]
    exact ⟨l.length - (j+1),jb,j+1,rfl,jb,rfl,fr⟩
   ·rw [e1] at hld e2
    obtain ⟨b2,o2,c2,rfl,xR⟩:=HL.one ht jb
    have xR:=(hF3.trans hf).ld hW (xR k hk)
    have hb2:=hf.wf.dh xR
    rw [e2] at xR
    have d1:decide (Int.ofNat k=Int.negSucc 0)=false:=rfl
    have d2:decide (Int.ofNat k<Int.ofNat 0)=false:=decide_eq_false (by show ¬ ((k:Int)<0);omega)
    have d3:decide (Int.ofNat nc≤Int.ofNat k)=false:=decide_eq_false (by show ¬ ((nc:Int)≤(k:Int));omega)
    cases hb:(ix l j).b with
    | true =>
     rw [hb] at hld
     have hsg:decide (sg (ix l j).a.q<Int.ofNat 0)=false:=decide_eq_false (h2 hb)
     simp (disch:=try exact jz) only [go_sem,z3,t1,t19,t20,t21,hld,hsg,hraw,d1,d2,d3,htl,xR]
     exact ⟨l.length - (j+1),jb,j+1,rfl,jb,rfl,fr⟩
    | false =>
     rw [hb] at hld
     simp (disch:=try exact jz) only [go_sem,z3,t1,t19,t20,t21,hld,d1,d2,d3,htl,xR]
     exact ⟨l.length - (j+1),jb,j+1,rfl,jb,rfl,fr⟩
  ·simp (disch:=try exact jz) only [go_sem,z3,true_and]
   exact hF3.trans hf
def ahu{x:C5}(h:Qh x=0): -1<=x.h/\x.h<8/\0<=x.r/\x.r<=7/\¬sg x.a.q<0:=by
 unfold Qh at h;split at h
 .cases h
 .split at h
  .cases h
  .split at h
   .cases h
   .omega
def ahv{e:vZ}(h:Dp e=0):e.c.length<=24/\e.a.length<=12/\¬sg e.m.q<0/\(∀i,i<e.c.length->Qh (ix e.c i)=0)/\∀k,k<e.a.length->Zc e.c.length (Bf e.a k) (ix e.a k)=0:=by
 unfold Dp at h;split at h
 .cases h
 .split at h
  .cases h
  .split at h
   .next h3=>exact absurd h h3
   .next h1 h2 h3=>exact⟨jb,jb,h2,iU (by simpa using h3),iU h⟩
def tkS(f:Int->Bool)(L:List Int)(l k:Nat):Bool:=f (Int.ofNat k)||(L.take l).contains (Int.ofNat k)
def aqc{n l c:Nat}{f:Int->Bool}{L:List Int}(hl:l<L.length)(hc:ix L l=Int.ofNat c):ones n (aJ (λk=>B.bool (tkS f L l k)) c (.bool true))=ones n λk=>.bool (tkS f L (l+1) k):=dF λk _=>by
 unfold aJ tkS;rw[bU hl,hc,List.contains_append];by_cases e:k=c
 .subst e;rw[ab rfl];simp
 .rw[ae e];have:([Int.ofNat c].contains (Int.ofNat k))=false:=by simp;omega
  rw[this];simp
def aqd{l:List fD}{j:Nat}(hj:j<l.length)(k:Nat):tkS (Bf l j) (xP (ix l j)) (xP (ix l j)).length k=Bf l (j+1) (Int.ofNat k):=by unfold tkS;rw[cr,agI hj];congr 1;rw[gC,List.contains_iff_mem,sO];exact⟨λh=>h.2,λh=>⟨by show(k:Int)≠-1;omega,h⟩⟩
theorem azv {J:St} (hW:WF J) {p:Nat→Prop} {e:vZ} {C A:B} (hc:pJ p J.h C e.c) (ha:iH p J.h A e.a) (hz:Dp e=0) (hm:e.m.fits 1000000) (hfc : ∀ k,k<e.c.length→(ix e.c k).a.fits 1000000)
  (hA : ∀ j,j<e.a.length→(ix e.a j).length≤1000∧(ix e.a j).flatten.length≤1000000∧(∀ k,k<(ix e.a j).flatten.length→(ix (ix e.a j).flatten k).a.fits 1000000)∧∀ t∈ix e.a j,∀ x∈t,x.k = -1∨0≤x.k∧x.k<e.c.length) :
  aC EN 45 [.agg [.bool e.m.n,.str e.m.s,.str e.m.d,C,A]] J fun r J'=>r = .c (.int .i64 (.ofNat 0))∧Fr J J':=by
 refine aN (sU.o _ _) sU.h ?_
 unfold sU
 dsimp only
 obtain ⟨h1,h2,h3,h4,h5⟩:=ahv hz
 have hck:=aZ.kn hc
 have hcl:=aZ.len hc
 have hak:=ha.kn
 have hal:=ha.choose_spec.1.len
 have hFr:=Fr.refl hW
 have hfit:=qP hm jj
 have hraw:rq e.m.n e.m.s e.m.d=e.m.q:=rfl
 have hsg:decide (sg e.m.q<Int.ofNat 0)=false:=decide_eq_false h3
 have d1:decide ((Int.ofNat 24:Int)<Int.ofNat e.c.length)=false:=decide_eq_false (by show ¬ ((24:Int)<(e.c.length:Int));omega)
 have d2:decide ((Int.ofNat 12:Int)<Int.ofNat e.a.length)=false:=decide_eq_false (by show ¬ ((12:Int)<(e.a.length:Int));omega)
 simp (disch:=try exact jz) only [go_sem,z3,hck,hcl,hak,hal,hsg,hraw,d1,d2]
 refine bM.mono (Q:=fun ex tm J'=>ex = .exit 1∧r8 tm 1 = .c (.ptr J.aj 0)∧J'.h J.aj=some ⟨[.bool e.m.n,.str e.m.s,.str e.m.d,C,A],none⟩∧Fr J J'∧J.aj+1≤J'.aj)
  (aF (fun q tm J'=>∃ i,q=e.c.length - i∧i≤e.c.length∧r8 tm 1 = .c (.ptr J.aj 0)∧r8 tm 28 = .c C∧r8 tm 29 = .c (.int .i64 (.ofNat e.c.length))∧r8 tm 30 = .c (.int .i64 (.ofNat i))∧J'.h J.aj=some ⟨[.bool e.m.n,.str e.m.s,.str e.m.d,C,A],none⟩∧Fr J J'∧J.aj+1≤J'.aj) e.c.length ?_ ?_) ?_
 ·refine ⟨0,jb,jb,?_⟩
  simp (disch:=try exact jz) only [go_sem,z3,true_and]
  exact ⟨fr,jp⟩
 ·rintro q tm J' ⟨i,rfl,hi,t1,t28,t29,t30,q1,hf,hnx⟩
  simp (disch:=try exact jz) only [go_sem,z3,t1,t28,t29,t30,aA]
  refine aH (fun hlt=>?_) (fun hlt=>?_)
  ·obtain ⟨b,o,c,rfl,-,hld⟩:=aZ.pos hc jb
   have hld:=hf.ld hW (hld i hlt)
   unfold X8 at hld
   obtain ⟨g1,g2,g3,g4,g5⟩:=ahu (h4 i hlt)
   have hfit:=qP (hfc i hlt) jj
   have hraw:rq (ix e.c i).a.n (ix e.c i).a.s (ix e.c i).a.d=(ix e.c i).a.q:=rfl
   have hsg:decide (sg (ix e.c i).a.q<Int.ofNat 0)=false:=decide_eq_false g5
   have e1:decide ((ix e.c i).h<Int.negSucc 0)=false:=decide_eq_false (by show ¬ (ix e.c i).h < -1;omega)
   have e2:decide (Int.ofNat 8≤(ix e.c i).h)=false:=decide_eq_false (by show ¬ 8≤(ix e.c i).h;omega)
   have e3:decide ((ix e.c i).r<Int.ofNat 0)=false:=decide_eq_false (by show ¬ (ix e.c i).r<0;omega)
   have e4:decide (Int.ofNat 7<(ix e.c i).r)=false:=decide_eq_false (by show ¬ 7<(ix e.c i).r;omega)
   have hle:=hf.le
   have lT:=Fr.refl hf.wf
   have hl1:=hf.wf.lt q1
   simp (disch:=try exact jz) only [go_sem,z3,t1,t28,t29,t30,hld,hsg,hraw,e1,e2,e3,e4,q1]
   exact ⟨e.c.length - (i+1),jb,i+1,rfl,jb,rfl,fr,jb⟩
  ·simp (disch:=try exact jz) only [go_sem,z3,true_and]
   exact ⟨t1,q1,hf,hnx⟩
 ·rintro _ KI σ1 ⟨rfl,t1,q1,hf1,hn1⟩
  have hle1:=hf1.le
  have WR:=Fr.refl hf1.wf
  have hl1:=hf1.wf.lt q1
  simp (disch:=try exact jz) only [go_sem,z3,t1,au q1,q1,hck,hcl,hak,hal]
  refine aF (fun q tm J'=>∃ j,q=e.a.length - j∧j≤e.a.length∧r8 tm 5 = .c (.sl σ1.aj 0 e.c.length (.ex e.c.length))∧r8 tm 63 = .c A∧r8 tm 64 = .c (.int .i64 (.ofNat e.a.length))∧r8 tm 65 = .c (.int .i64 (.ofNat j))
   ∧ J'.h σ1.aj=some ⟨ones e.c.length fun k=>.bool (Bf e.a j (Int.ofNat k)),none⟩∧Fr J J'∧σ1.aj+1≤J'.aj) e.a.length ?_ ?_
  ·refine ⟨0,jb,jb,?_⟩
   simp (disch:=try exact jz) only [go_sem,z3,true_and]
   exact ⟨rfl,fr,jp⟩
  ·rintro q tm J' ⟨j,rfl,hj,t5,t63,t64,t65,q5,hf,hnx⟩
   simp (disch:=try exact jz) only [go_sem,z3,t5,t63,t64,t65,aA]
   refine aH (fun hlt=>?_) (fun hlt=>?_)
   ·obtain ⟨b,o,c,rfl,T,hld,hT⟩:=ha.at hlt
    have hld:=hf.ld hW hld
    obtain ⟨a1,a2,a3,a4⟩:=hA j hlt
    have WT:=hT.kn
    have hle:=hf.le
    have lT:=Fr.refl hf.wf
    simp (disch:=try exact jz) only [go_sem,z3,t5,t63,t64,t65,hld,WT]
    refine aC.st (Fr J') (fr) fun hF=>?_
    have q5F:=hF.get hf.wf q5
    have hTF:=hT.fr hW (hf.trans hF)
    refine (azu hF.wf hTF (aZ.hl (p:=fun _=>True) (bD (G:=fun k=>[.bool (Bf e.a j (Int.ofNat k))]) (.ex e.c.length) q5F rfl trivial (fun _=>rfl) jj fun _ _=>rfl)) jb (h5 j hlt) a2 a3).mono ?_
    rintro _ σ2 ⟨rfl,hf2⟩
    have hF2:=hF.trans hf2
    have q7:=hf2.get hF.wf (ay _ _ _)
    have d0:decide ((0:Int)=Int.ofNat 0)=true:=rfl
    simp (disch:=try exact jz) only [go_sem,z3,au q7,WT,t5,d0]
    refine (Ve hf2.wf (hT.fr hW (hf.trans hF2)) jb a2).mono ?_
    rintro _ σ3 ⟨⟨u,rfl,hu⟩,hf3⟩
    have hF3:=hF2.trans hf3
    have hul:=hu.len
    have huk:=hu.kn
    have q53:=hF3.get hf.wf q5
    have hle3:=hF3.le
    have hle2:=hF2.le
    have hm9:=vS a4
    have hall:=aqd hlt
    have hu2:=hu.hlp (p:=fun b=>σ2.aj≤b) (fun _=>rfl) jj (fun _ _=>rfl) fun b h1 _=>h1
    have aDl:(xP (ix e.a j)).length≤1000000000:=by rw [← Rk];exact Nat.le_trans (H6 a4) jb
    generalize xP (ix e.a j)=L at *
    have hz0:ones e.c.length (fun k=>B.bool (Bf e.a j (Int.ofNat k)))=ones e.c.length fun k=>.bool (tkS (Bf e.a j) L 0 k):=dF fun k _=>by unfold tkS;rw [List.take_zero];simp
    rw [hz0] at q53
    have QE:=hf.trans hF3
    simp (disch:=try exact jz) only [go_sem,z3,hul,huk]
    refine bM.mono (Q:=fun ex tm σ4=>ex = .exit 6∧r8 tm 5 = .c (.sl σ1.aj 0 e.c.length (.ex e.c.length))∧r8 tm 63 = .c (.sl b o e.a.length c)∧r8 tm 64 = .c (.int .i64 (.ofNat e.a.length))∧r8 tm 65 = .c (.int .i64 (.ofNat j))
     ∧ σ4.h σ1.aj=some ⟨ones e.c.length fun k=>.bool (tkS (Bf e.a j) L L.length k),none⟩∧Fr J σ4∧σ3.aj≤σ4.aj)
     (aF (fun q tm σ4=>∃ l,q=L.length - l∧l≤L.length∧r8 tm 5 = .c (.sl σ1.aj 0 e.c.length (.ex e.c.length))∧r8 tm 63 = .c (.sl b o e.a.length c)∧r8 tm 64 = .c (.int .i64 (.ofNat e.a.length))∧r8 tm 65 = .c (.int .i64 (.ofNat j))∧r8 tm 76 = .c u∧r8 tm 77 = .c (.int .i64 (.ofNat L.length))∧r8 tm 78 = .c (.int .i64 (.ofNat l))
     ∧ σ4.h σ1.aj=some ⟨ones e.c.length fun k=>.bool (tkS (Bf e.a j) L l k),none⟩∧Fr J σ4∧aU [σ1.aj] σ3 σ4) L.length ?_ ?_) ?_
    ·refine ⟨0,jb,jb,?_⟩
     simp (disch:=try exact jz) only [go_sem,z3,t5,t63,t64,t65,true_and]
     exact ⟨q53,QE,(Fr.refl hf3.wf).ex _⟩
    ·rintro q tm σ4 ⟨l,rfl,hl,t5,t63,t64,t65,t76,t77,t78,q54,hf4,hfe⟩
     simp (disch:=try exact jz) only [go_sem,z3,t5,t63,t64,t65,t76,t77,t78,aA]
     refine aH (fun JA=>?_) (fun JA=>?_)
     ·obtain ⟨b7,o7,c7,rfl,hp7,cZ⟩:=aZ.pos hu2 jb
      have hp7:σ2.aj≤b7:=hp7
      have cZ:=hfe.ld hf3.wf (by simp;omega) (cZ l JA)
      have cZ:=(tH cZ).1
      obtain ⟨m1,m2⟩:=hm9 _ (ni JA)
      obtain ⟨cc,hcc⟩:=Int.eq_ofNat_of_zero_le m1
      have hst:=aqc (n:=e.c.length) (f:=Bf e.a j) JA hcc
      have aBL : ix L l=Int.ofNat cc:=hcc
      have hcn:cc<e.c.length:=jb
      have aDm:=hf4.wf.lt q54
      have pK:=hfe.le
      have EC:=Fr.refl hf4.wf
      rw [aBL] at cZ
      simp (disch:=try exact jz) only [go_sem,z3,t5,t63,t64,t65,t76,t77,t78,cZ,q54,aG q54,hst]
      exact ⟨L.length - (l+1),jb,l+1,rfl,jb,rfl,rfl,fr,by repeat (first|assumption|exact aU.refl (by assumption)|exact aU.up (by assumption) kf|exact aU.up (aU.refl (by assumption)) kf|refine aU.set1 ?_ kg kf|refine aU.jV ?_ kg|refine aU.mX ?_ kg|refine aU.nX ?_ kf)⟩
     ·have:l=L.length:=jb
      subst this
      simp (disch:=try exact jz) only [go_sem,z3,true_and]
      exact ⟨t5,t63,t64,t65,q54,hf4,hfe.le⟩
    ·rintro _ tm4 σ4 ⟨rfl,t5,t63,t64,t65,q54,hf4,hn4⟩
     simp (disch:=try exact jz) only [go_sem,z3,t5,t63,t64,t65]
     refine ⟨e.a.length - (j+1),jb,j+1,rfl,jb,rfl,?_,hf4,jb⟩
     rw [q54]
     exact congrArg (fun l=>some (Bk.mk l none)) (dF fun k _=>congrArg B.bool (hall k))
   ·simp (disch:=try exact jz) only [go_sem,z3,true_and]
    exact hf
def lkC(o:Option Bk)(e j:Int):Option V:=match o with
 |some ⟨c,some (0,0)⟩=>bif IU .i64 e&&IU .i64 j then some (.c (.bool (hasB c e j)))else none
 |_=>none
def upC(o:Option Bk)(e j:Int):Option Bk:=match o with
 |some ⟨c,some (0,0)⟩=>bif IU .i64 e&&(IU .i64 j&&Nat.ble c.length 1000)then some ⟨c++[.int .i64 e,.int .i64 j],some (0,0)⟩else none
 |_=>none
def alF(m k x:O)(tm:Tr V)(J:St):vV (.VW m k x) tm J=match m.ev tm,k.ev tm,x.ev tm with
  |.c (.mp b),.agg [.int .i64 e,.int .i64 j],.c (.bool true)=>(match upC (J.h b) e j with|some k=>some (.und,⟨hset J.h b k,J.aj⟩)|none=>none)
  |_,_,_=>none:=by
 simp only[vV]
 generalize m.ev tm=M
 generalize k.ev tm=Y
 generalize x.ev tm=X
 rcases M with⟨_|_|_|_|_|_|_|_|b|_⟩|_|_|_|_|_|_<;>try rfl
 rcases Y with _|l|_|_|_|_|_<;>try rfl
 rcases l with _|⟨p,_|⟨q,_|⟨_,_⟩⟩⟩<;>try rfl
 .cases p<;>try rfl
  next y e=>cases y<;>rfl
 .rcases p with⟨y,e⟩|_|_|_|_|_|_|_|_|_<;>try rfl
  cases y<;>try rfl
  rcases q with⟨y,j⟩|_|_|_|_|_|_|_|_|_<;>try rfl
  cases y<;>try rfl
  rcases X with⟨_|u|_|_|_|_|_|_|_|_⟩|_|_|_|_|_|_<;>try rfl
  cases u<;>try rfl
  dsimp only
  unfold upC
  generalize hg:J.h.get b=G
  rcases G with _|⟨c,_|⟨u,v⟩⟩<;>try rfl
  cases u<;>try rfl
  cases v<;>try rfl
  cases hQ:IU .i64 e&&(IU .i64 j&&Nat.ble c.length 1000)with
  |true=>simp only[hQ,ce];rfl
  |false=>simp only[hQ,eQ]
 .rcases p with⟨y,e⟩|_|_|_|_|_|_|_|_|_<;>try rfl
  cases y<;>try rfl
  rcases q with⟨y,j⟩|_|_|_|_|_|_|_|_|_<;>try rfl
  cases y<;>rfl
section
variable {E:Env} (tm:Tr V) (J:St) (K:V→St→Prop)
def aqe:wpOp E .MF tm J K=K (.c (.mp J.aj)) ⟨hset J.h J.aj ⟨[],some (0,0)⟩,J.aj+1⟩:=by unfold wpOp qI;simp only[xu.kind,vV,lY]
def alG(m k:O):wpOp E (.lookup m k) tm J K=Dw (match m.ev tm,k.ev tm with|.c (.mp b),.agg [.int .i64 e,.int .i64 j]=>lkC (J.h b) e j|_,_=>none) λv=>K v J:=by rw[fM _ _ _ _ (by rfl) λ_ _ h=>by cases h];rfl
def avA(m k x:O):wpOp E (.VW m k x) tm J K=match m.ev tm,k.ev tm,x.ev tm with
  |.c (.mp b),.agg [.int .i64 e,.int .i64 j],.c (.bool true)=>(match upC (J.h b) e j with|some k=>K .und ⟨hset J.h b k,J.aj⟩|none=>False)
  |_,_,_=>False:=by
 unfold wpOp qI
 simp only[xu.kind,alF]
 generalize m.ev tm=M
 generalize k.ev tm=Y
 generalize x.ev tm=X
 rcases M with⟨_|_|_|_|_|_|_|_|b|_⟩|_|_|_|_|_|_<;>try rfl
 rcases Y with _|l|_|_|_|_|_<;>try rfl
 rcases l with _|⟨p,_|⟨q,_|⟨_,_⟩⟩⟩<;>try rfl
 .cases p<;>try rfl
  next y e=>cases y<;>rfl
 .rcases p with⟨y,e⟩|_|_|_|_|_|_|_|_|_<;>try rfl
  cases y<;>try rfl
  rcases q with⟨y,j⟩|_|_|_|_|_|_|_|_|_<;>try rfl
  cases y<;>try rfl
  rcases X with⟨_|u|_|_|_|_|_|_|_|_⟩|_|_|_|_|_|_<;>try rfl
  cases u<;>try rfl
  dsimp only
  cases upC (J.h b) e j<;>rfl
 .rcases p with⟨y,e⟩|_|_|_|_|_|_|_|_|_<;>try rfl
  cases y<;>try rfl
  rcases q with⟨y,j⟩|_|_|_|_|_|_|_|_|_<;>try rfl
  cases y<;>rfl
end
def TY:List Ins.Lg->List B
 |[]=>[]
 |x::r=>.int .i64 x.e:: .int .i64 x.k::TY r
def ae4:∀(l r:List Ins.Lg),TY (l++r)=TY l++TY r
 |[],_=>rfl
 |x::l,r=>by show _::_::TY (l++r)=_;rw[ae4 l r];rfl
def alH(l:List Ins.Lg)(x:Ins.Lg):TY l++[.int .i64 x.e,.int .i64 x.k]=TY (l++[x]):=by rw[ae4];rfl
def ae5:∀l:List Ins.Lg,(TY l).length=2*l.length
 |[]=>rfl
 |x::l=>by show(TY l).length+1+1=_;rw[ae5 l,bL];omega
def aat(e j:Int):∀l:List Ins.Lg,hasB (TY l) e j=Jj l ⟨e,j⟩
 |[]=>rfl
 |x::l=>by
  show(bif eqI x.e e&&eqI x.k j then true else hasB (TY l) e j)=(x.e==e&&x.k==j||Jj l ⟨e,j⟩)
  rw[aat e j l];have h1:eqI x.e e=(x.e==e):=by rw[gC,VZ,beq_iff_eq]
  have h2:eqI x.k j=(x.k==j):=by rw[gC,VZ,beq_iff_eq]
  rw[h1,h2];cases(x.e==e&&x.k==j)<;>rfl
def OB{n:Nat}(h:n<=9223372036854775807):IU .i64 (.ofNat n)=true:=eL h
def avC(l:List Ins.Lg)(a b:Nat)(ha:a<=9223372036854775807)(hb:b<=9223372036854775807)(hl:l.length<=500):upC (some ⟨TY l,some (0,0)⟩) (.ofNat a) (.ofNat b)=some ⟨TY (l++[⟨.ofNat a,.ofNat b⟩]),some (0,0)⟩:=by have h2:Nat.ble (TY l).length 1000=true:=eL (by rw[ae5];omega);show(bif IU .i64 (.ofNat a)&&(IU .i64 (.ofNat b)&&Nat.ble (TY l).length 1000)then _ else none)=_;rw[OB ha,OB hb,h2,<-alH];rfl
def avD(l:List Ins.Lg)(a b:Nat)(ha:a<=9223372036854775807)(hb:b<=9223372036854775807):lkC (some ⟨TY l,some (0,0)⟩) (.ofNat a) (.ofNat b)=some (.c (.bool (Jj l ⟨.ofNat a,.ofNat b⟩))):=by show(bif IU .i64 (.ofNat a)&&IU .i64 (.ofNat b)then some (V.c (.bool (hasB (TY l) (.ofNat a) (.ofNat b))))else none)=_;rw[OB ha,OB hb,aat];rfl
attribute [go_sem] aqe alG avA avC avD
def Vl{g:fH}{d k:Nat}(h:abZ g d k=0):∃a b:Nat,ix (ix g.d d).l k=⟨.ofNat a,.ofNat b⟩/\a<g.e.length/\b<(ix g.e a).c.length/\Jj (oJ g.d d k) ⟨.ofNat a,.ofNat b⟩=false/\holdL g.e ⟨.ofNat a,.ofNat b⟩=holdL g.e (ix (ix g.d d).l 0):=by
 unfold abZ at h;dsimp only at h;split at h
 .cases h
 .next h1=>
  split at h
  .cases h
  .next h2=>
   split at h
   .cases h
   .next h3=>
    generalize ix (ix g.d d).l k=x at*;obtain⟨xe,xk⟩:=x;dsimp only at h1;obtain⟨a,rfl⟩:=cw (show 0<=xe by omega);obtain⟨b,rfl⟩:=cw (show 0<=xk by omega);rw[ga]at h1;exact⟨a,b,rfl,jb,jb,by simpa using h2,by simpa using h3⟩
def acZ{l:List pX}{d k:Nat}(hk:k<(ix l d).l.length):oJ l d (k+1)=oJ l d k++[ix (ix l d).l k]:=by unfold oJ;rw[bU hk,gS]
def RN{l:List pX}{d:Nat}(hd:d<l.length):oJ l d (ix l d).l.length=oJ l (d+1) 0:=by unfold oJ;rw[cr,cH,du,bU hd,cL];simp
def Vm{J:St}(hW:WF J){p:Nat->Prop}{ev dv:B}{g:fH}(hg:rW p J.h ev dv g){a b:Nat}(ha:a<g.e.length)(hb:b<(ix g.e a).c.length)(hn:g.e.length<=1000)(hc:(ix g.e a).c.length<=1000):
  aC EN 70 [.agg [ev,dv],.agg [.int .i64 (.ofNat a),.int .i64 (.ofNat b)]] J λr J'=>r=.c (.int .i64 (holdL g.e ⟨.ofNat a,.ofNat b⟩))/\Fr J J':=by
 refine aN (rE.o _ _) rE.h ?_
 unfold rE
 dsimp only
 have hdk:=hg.d.kn
 obtain⟨b5,o5,c5,rfl,C1,A1,bC,-,hC,hA1⟩:=hg.e.at ha
 obtain⟨b8,o8,c8,rfl,-,og⟩:=aZ.pos hC jb
 have og:=og b hb
 unfold X8 at og
 have l3:=wL bC 3 1 false jj jj
 have l4:=FI og 1 false jj jj
 have m2:=hW.dh l3
 have m3:=hW.dh l4
 have hFr:=Fr.refl hW
 simp(disch:=try exact jz)only[go_sem,hdk,l3,l4]
 exact⟨rfl,fr⟩
theorem avE {J:St} (hW:WF J) {p p' : Nat→Prop} {ev dv:B} {g:fH} (hg:rW p J.h ev dv g) {d mb:Nat} (hp : ∀ b,p b→b<mb) (hp' : ∀ b,p' b→b<mb) {Lv:B} (hL:Bg p' J.h Lv (ix g.d d).l) (hm:J.h mb=some ⟨TY (oJ g.d d 0),some (0,0)⟩) (hz:TA g d=0) (hw:(ix g.d d).w.fits 1000000) (hn:g.e.length≤1000) (hc : ∀ i,i<g.e.length→(ix g.e i).c.length≤1000) (hl5 : ∀ k,k≤(ix g.d d).l.length→(oJ g.d d k).length≤500) :
  aC EN 46 [.agg [ev,dv],.agg [.bool (ix g.d d).w.n,.str (ix g.d d).w.s,.str (ix g.d d).w.d,Lv],.c (.mp mb)] J fun r J'=>r = .c (.int .i64 (.ofNat 0))∧J'.h mb=some ⟨TY (oJ g.d d (ix g.d d).l.length),some (0,0)⟩∧aU [mb] J J':=by
 refine aN (oC.o _ _) oC.h ?_
 unfold oC
 dsimp only
 unfold TA at hz
 split at hz
 ·cases hz
 ·next h1 =>
  split at hz
  ·cases hz
  ·next h2 =>
   have h3:=iU hz
   have hek:=hg.e.kn
   have hdk:=hg.d.kn
   have hLk:=aZ.kn hL
   have hLl:=aZ.len hL
   have hml:=hW.lt hm
   have hFr:=Fr.refl hW
   have hfit:=qP hw jj
   have hraw:rq (ix g.d d).w.n (ix g.d d).w.s (ix g.d d).w.d=(ix g.d d).w.q:=rfl
   have hsg:decide (sg (ix g.d d).w.q<Int.ofNat 0)=false:=decide_eq_false h2
   have d1:decide ((Int.ofNat 8:Int)<Int.ofNat (ix g.d d).l.length)=false:=decide_eq_false (by show ¬ ((8:Int)<((ix g.d d).l.length:Int));omega)
   simp (disch:=try exact jz) only [go_sem,z3,hek,hdk,hLk,hLl,hsg,hraw,d1]
   refine aF (fun q tm J'=>∃ k,q=(ix g.d d).l.length - k∧k≤(ix g.d d).l.length∧r8 tm 2 = .c (.mp mb)∧r8 tm 3 = .c (.ptr J.aj 0)∧r8 tm 4 = .c (.ptr (J.aj+1) 0)∧r8 tm 20 = .c Lv∧r8 tm 21 = .c (.int .i64 (.ofNat (ix g.d d).l.length))∧r8 tm 22 = .c (.int .i64 (.ofNat k))
    ∧ J'.h mb=some ⟨TY (oJ g.d d k),some (0,0)⟩∧J'.h J.aj=some ⟨[ev,dv],none⟩∧J'.h (J.aj+1)=some ⟨[.bool (ix g.d d).w.n,.str (ix g.d d).w.s,.str (ix g.d d).w.d,Lv],none⟩∧aU [mb] J J'∧J.aj+1+1≤J'.aj) (ix g.d d).l.length ?_ ?_
   ·refine ⟨0,jb,jb,?_⟩
    simp (disch:=try exact jz) only [go_sem,z3,true_and]
    exact ⟨hm,Fr.ex (fr) _,jp⟩
   ·rintro q tm J' ⟨k,rfl,hk,t2,t3,t4,t20,t21,t22,qm,q3,q4,hf,hnx⟩
    simp (disch:=try exact jz) only [go_sem,z3,t2,t3,t4,t20,t21,t22,aA]
    refine aH (fun hlt=>?_) (fun hlt=>?_)
    ·obtain ⟨a,b,ex,ha,hb,hh,hho⟩:=Vl (h3 k hlt)
     obtain ⟨a0,b0,ex0,ha0,hb0,-,-⟩:=Vl (h3 0 jb)
     have hko : ∀ b,b<mb→J'.h b=J.h b:=fun b hb=>hf.old b jb (by simp;omega)
     have hg' : rW (Lt mb) J'.h ev dv g:=hg.keep (fun b hb=>hko b (hp b hb)) hp
     have hL' : Bg (Lt mb) J'.h Lv (ix g.d d).l:=aZ.keep hL (fun b hb=>hko b (hp' b hb)) hp'
     obtain ⟨b6,o6,c6,rfl,hb6,bJ⟩:=aZ.pos hL' jb
     have aau:=bJ 0 jb
     have bJ:=bJ k hlt
     unfold NY at bJ aau
     rw [ex] at bJ
     rw [ex0] at aau
     obtain ⟨b5,o5,c5,rfl,C1,A1,bC,-,hC,-⟩:=hg'.e.at ha
     have hCl:=aZ.len hC
     obtain ⟨b8,o8,c8,rfl,-,-⟩:=aZ.pos hC jb
     have l3:=wL bC 3 1 false jj jj
     have m2:=hf.wf.dh l3
     have m6:=hf.wf.dh bJ
     have hnn:=hn
     have hca:=hc a ha
     have aBM:=hc a0 ha0
     have e1:decide (Int.ofNat a<Int.ofNat 0)=false:=decide_eq_false (by show ¬ ((a:Int)<0);omega)
     have e2:decide (Int.ofNat g.e.length≤Int.ofNat a)=false:=decide_eq_false (by show ¬ ((g.e.length:Int)≤(a:Int));omega)
     have e3:decide (Int.ofNat b<Int.ofNat 0)=false:=decide_eq_false (by show ¬ ((b:Int)<0);omega)
     have e4:decide (Int.ofNat (ix g.e a).c.length≤Int.ofNat b)=false:=decide_eq_false (by show ¬ (((ix g.e a).c.length:Int)≤(b:Int));omega)
     have hle:=hf.le
     have lT:=Fr.refl hf.wf
     have hlm:=hf.wf.lt qm
     simp (disch:=try exact jz) only [go_sem,z3,t2,t3,t4,t20,t21,t22,bJ,aau,au q3,au q4,q3,q4,l3,hCl,e1,e2,e3,e4,qm,hh,hek,hdk]
     refine aC.st (Fr J') (fr) fun hF=>?_
     refine (Vm hF.wf (hg'.fr hf.wf hF) ha hb hn hca).mono ?_
     rintro _ σ2 ⟨rfl,hf2⟩
     have hF2:=hF.trans hf2
     have q32:=hF2.get hf.wf q3
     have q42:=hF2.get hf.wf q4
     have q82:=hf2.get hF.wf (ay _ _ _)
     have xR:=hF2.ld hf.wf aau
     have Nq:=Fr.refl hf2.wf
     simp (disch:=try exact jz) only [go_sem,z3,t2,t3,t4,au q32,au q42,au q82,q32,q42,xR,hek,hdk]
     refine (Vm hf2.wf (hg'.fr hf.wf hF2) ha0 hb0 hn aBM).mono ?_
     rintro _ σ3 ⟨rfl,hf3⟩
     have hF3:=hF2.trans hf3
     have q33:=hF3.get hf.wf q3
     have q43:=hF3.get hf.wf q4
     have q83:=hf3.get hf2.wf q82
     have qm3:=hF3.get hf.wf qm
     have vk:=hF3.ld hf.wf aau
     have hle3:=hF3.le
     rw [ex0] at hho
     have d5:decide (holdL g.e ⟨.ofNat a,.ofNat b⟩=holdL g.e ⟨.ofNat a0,.ofNat b0⟩)=true:=decide_eq_true hho
     have aDn:=hl5 k hk
     have aCw:(ix g.d d).l.length≤8:=jb
     have hFE:aU [mb] J σ3:=hf.trans (hF3.ex _)
     have aDo:mb<σ3.aj:=jb
     simp (disch:=try exact jz) only [go_sem,z3,t2,t3,t4,t20,t21,t22,au q33,au q43,au q83,q33,q43,q83,qm3,vk,d5]
     refine ⟨(ix g.d d).l.length - (k+1),jb,k+1,rfl,jb,rfl,?_,by repeat (first|assumption|exact aU.refl (by assumption)|exact aU.up (by assumption) kf|exact aU.up (aU.refl (by assumption)) kf|refine aU.set1 ?_ kg kf|refine aU.jV ?_ kg|refine aU.mX ?_ kg|refine aU.nX ?_ kf),jb⟩
     rw [acZ hlt,ex]
    ·have:k=(ix g.d d).l.length:=jb
     subst this
     simp (disch:=try exact jz) only [go_sem,z3,true_and]
     exact ⟨qm,hf⟩
end Go.Proofs.Xe
