import Derived.Test.YthkggcakedkboaaGreatDoorY27
set_option linter.all false
set_option maxRecDepth 100000
set_option maxHeartbeats 8000000
namespace Go.Proofs.Xe
open Go.RowKit Go.Proofs.Ins
def Oy(W:Rat)(q r:Nat->Rat)(k:Nat):Rat:=mX W (aA (k+1) q) (aA (k+1) r)-mX W (aA k q) (aA k r)
def Zd(W:Rat):mX W 0 0=0:=by grind[mX]
theorem JU(W:Rat)(q r:Nat->Rat):∀m,aA m (Oy W q r)=mX W (aA m q) (aA m r)
 |0=>(Zd W).symm
 |m+1=>by rw[aA,JU W q r m];unfold Oy;grind
def PV{W:Rat}{q r:fD->Rat}{a:fD}(j:Nat):∀{t:List fD}{Q R:Rat},iU W q r Q R (mX W Q R) (t++[a]) j=iU W q r Q R (mX W Q R) t j+if a.1=j then mX W (Q+aG t q+q a) (R+aG t r+r a)-mX W (Q+aG t q) (R+aG t r)else 0
 |[],Q,R=>by show(if a.1=j then mX W (Q+q a) (R+r a)-mX W Q R else 0)+0=0+if a.1=j then mX W (Q+0+q a) (R+0+r a)-mX W (Q+0) (R+0)else 0;grind
 |b::t,Q,R=>by rw[gi];unfold iU;rw[PV];show _=_+if a.1=j then mX W (Q+(q b+aG t q)+q a) (R+(r b+aG t r)+r a)-mX W (Q+(q b+aG t q)) (R+(r b+aG t r))else 0;rw[show Q+(q b+aG t q)=Q+q b+aG t q by grind,show R+(r b+aG t r)=R+r b+aG t r by grind];grind
section
variable (g:iD) (x:Nat→Rat)
def Jg(i c:Nat):Rat:=wB (dB (ix g.e i)) (x i) c
def Nu(j i c:Nat):Rat:=if qH (aY g) j i c then Jg g x i c else 0
def Oz(i c j b:Nat):Rat:=if b<i then aA (kE g.e b) (Nu g x j b)else if b=i then aA c (Nu g x j i)else 0
def mgP(t j b:Nat):Rat:=aA (kE g.e b) (Nu g x j b)+aG ((aY g).ds.take t) (dM (aY g) x j b)
def Il(t i:Nat)(u:Nat->Rat)(j b:Nat):Rat:=mgP g x t j b+if b<i then dM (aY g) x j b (dW g t,dL g t)else if b=i then u j else 0
def PW(t i k j:Nat):Rat:=iU (dW g t) (gq (aY g) x) (gs (aY g) x i) 0 0 0 ((dL g t).take k) j
def PX(t k:Nat):Rat:=gq (aY g) x (yG (ix (ix g.d t).l k))
def Gs(t i k:Nat):Rat:=gs (aY g) x i (yG (ix (ix g.d t).l k))
end
section
variable {g:iD} {x:Nat→Rat}
def ahc:Oz g x 0 0=λ_ _=>0:=by funext j b;unfold Oz;rw[ab jb];split<;>rfl
def ahd(i:Nat):Oz g x i (kE g.e i)=Oz g x (i+1) 0:=by
 funext j b;unfold Oz;by_cases h:b<i
 .grind
 .rw[ab h];by_cases h2:b=i
  .grind
  .rw[ab h2,ab jb];split<;>rfl
def ak9{i c hh:Nat}(hl:(aY g).eH.contains (i,c)=false)(hk:apH g i c=(hh:Int)):qg (rC (Oz g x i c)) hh i (gK (Oz g x i c hh i+Jg g x i c))=rC (Oz g x i (c+1)):=by
 funext j b;have ho:Nu g x j i c=if j=hh then Jg g x i c else 0:=by unfold Nu qH;grind[aY,apH]
 grind[qg,rC,Oz,aA]
def Wi{i c:Nat}(h:(aY g).eH.contains (i,c)=true\/apH g i c=-1):Oz g x i c=Oz g x i (c+1):=by
 funext j b;have ho:Nu g x j i c=0:=by unfold Nu qH;grind[aY,apH]
 grind[Oz,aA]
def ala{n j b:Nat}(hb:b<n):Oz g x n 0 j b=mgP g x 0 j b:=by unfold Oz mgP;rw[ae hb,cE];exact(cF _).symm
def ahe(t:Nat):mgP g x t=Il g x t 0 λ_=>0:=by grind[Il]
def Nv(t i:Nat):(Il g x t i λj=>dM (aY g) x j i (dW g t,dL g t))=Il g x t (i+1) λ_=>0:=by grind[Il]
theorem ahf{t j b:Nat}(h:t<g.d.length):mgP g x (t+1) j b=mgP g x t j b+dM (aY g) x j b (dW g t,dL g t):=by grind[mgP,bD,wF,lN,Nk]
def alb{t n j b:Nat}(h:t<g.d.length)(hb:b<n):Il g x t n (λ_=>0) j b=mgP g x (t+1) j b:=by grind[ahf,Il]
def alc{j b:Nat}:mgP g x g.d.length j b=gM g.e.length (aY g) x j b:=by unfold mgP gM;rw[<-wF,bX];congr 1;refine aK λc _=>?_;unfold Nu;have e:gs (aY g) x b (b,c)=Jg g x b c:=ae rfl;rw[e]
def ahg(t i:Nat):(λ_:Nat=>(0:Rat))=PW g x t i 0:=by rfl
theorem Io(g:iD)(t:Nat):(dL g t).length=(ix g.d t).l.length:=cV _
theorem ahh{t k:Nat}(hk:k<(ix g.d t).l.length):ix (dL g t) k=yG (ix (ix g.d t).l k):=VU yG hk
def S9(f:fD->Rat){t m:Nat}(hm:m<=(ix g.d t).l.length):aA m (λk=>f (yG (ix (ix g.d t).l k)))=aG ((dL g t).take m) f:=by grind[Nl,Io,aK,ahh]
def ahi{t i k j:Nat}(hk:k<(ix g.d t).l.length):PW g x t i (k+1) j=PW g x t i k j+if(yG (ix (ix g.d t).l k)).1=j then Oy (dW g t) (PX g x t) (Gs g x t i) k else 0:=by unfold PW;rw[bD (by grind[Io]),ahh hk];have h:=PV (W:=dW g t) (q:=gq (aY g) x) (r:=gs (aY g) x i) (a:=yG (ix (ix g.d t).l k)) j (t:=(dL g t).take k) (Q:=0) (R:=0);rw[Zd,gl,gl]at h;rw[h];unfold Oy;have e1:∀m,m<=(ix g.d t).l.length->aA m (PX g x t)=aG ((dL g t).take m) (gq (aY g) x):=λm hm=>S9 (gq (aY g) x) hm;have e2:∀m,m<=(ix g.d t).l.length->aA m (Gs g x t i)=aG ((dL g t).take m) (gs (aY g) x i):=λm hm=>S9 (gs (aY g) x i) hm;rw[aA,aA,e1 k jb,e2 k jb];rfl
def ald{t i k e c:Nat}(hk:k<(ix g.d t).l.length)(Dz:ix (ix g.d t).l k=⟨.ofNat e,.ofNat c⟩):qg (rC (Il g x t i (PW g x t i k))) e i (gK (Il g x t i (PW g x t i k) e i+Oy (dW g t) (PX g x t) (Gs g x t i) k))=rC (Il g x t i (PW g x t i (k+1))):=by funext j b;have h:=ahi (x:=x) (i:=i) (j:=j) hk;rw[Dz]at h;have h:PW g x t i (k+1) j=PW g x t i k j+if e=j then Oy (dW g t) (PX g x t) (Gs g x t i) k else 0:=h;grind[qg,rC,Il]
theorem aaX{t i:Nat}(j:Nat):dM (aY g) x j i (dW g t,dL g t)=(if Oi (aY g) (dW g t,dL g t)=(j:Int)then aA (ix g.d t).l.length (Gs g x t i)-aA (ix g.d t).l.length (Oy (dW g t) (PX g x t) (Gs g x t i))else 0)+PW g x t i (ix g.d t).l.length j:=by unfold dM PW;have e1:aA (ix g.d t).l.length (PX g x t)=aG ((dL g t).take (ix g.d t).l.length) (gq (aY g) x):=S9 (gq (aY g) x) jp;have e2:aA (ix g.d t).l.length (Gs g x t i)=aG ((dL g t).take (ix g.d t).l.length) (gs (aY g) x i):=S9 (gs (aY g) x i) jp;grind[JU,Io]
def ale{t i hh:Nat}(hd:Oi (aY g) (dW g t,dL g t)=(hh:Int)):qg (rC (Il g x t i (PW g x t i (ix g.d t).l.length))) hh i (gK (Il g x t i (PW g x t i (ix g.d t).l.length) hh i+(aA (ix g.d t).l.length (Gs g x t i)-aA (ix g.d t).l.length (Oy (dW g t) (PX g x t) (Gs g x t i)))))=rC (Il g x t i λj=>dM (aY g) x j i (dW g t,dL g t)):=by grind[qg,rC,Il,aaX]
def Wj{t i:Nat}(hd:Oi (aY g) (dW g t,dL g t)=-1):Il g x t i (PW g x t i (ix g.d t).l.length)=Il g x t i λj=>dM (aY g) x j i (dW g t,dL g t):=by
 have e:PW g x t i (ix g.d t).l.length=λj=>dM (aY g) x j i (dW g t,dL g t):=by grind[aaX]
 rw[e]
end
structure Tc(D:Nat)(g:iD)(x:Nat->Rat):Prop where
 A:as4 D g x
 r:∀i,i<g.e.length->ROk D (dB (ix g.e i)) (x i)
 s:∀i,i<g.e.length->∀c,c<kE g.e i->0<=Jg g x i c/\Zk D 1 (Jg g x i c)
def Td{D:Nat}{W:Rat}{q r:fD->Rat}{j:Nat}:∀(t:List fD){Q R B:Rat}{K M:Nat},(∀a∈t,Zk D 1 (r a))->Zk D K R->Zk D K B->K+t.length<=M->Zk D (t.length*(2*M)) (iU W q r Q R B t j)
 |[],_,_,_,_,_,_,_,_,_=>Zk.zero.mono (bz _)
 |a::t,Q,R,B,K,M,hr,hR,hB,hM=>by
  rw[bL]at hM⊢;have ho:Zk D (K+1) (mX W (Q+q a) (R+r a)):=by
   unfold mX;split
   .exact hR.add (hr a kc)
   .exact Zk.zero.mono (bz _)
  have h1:=Td (W:=W) (q:=q) (j:=j) (Q:=Q+q a) t (λb hb=>hr b (by simp[hb])) (hR.add (hr a kc)) ho (by omega:K+1+t.length<=M);rw[ck,fa];unfold iU;refine Zk.add ?_ h1;split
  .exact(ho.sub hB).mono jb
  .exact Zk.zero.mono (bz _)
section
variable {D:Nat} {g:iD} {x:Nat→Rat}
theorem Tc.gs(h:Tc D g x){t:Nat}(ht:t<g.d.length)(i:Nat):∀a∈dL g t,Zk D 1 (gs (aY g) x i a)/\0<=gs (aY g) x i a:=λa ha=>by
 obtain⟨y,hy,rfl⟩:=cU.mp ha;obtain⟨k,hk,rfl⟩:=aE hy;rw[<-fJ hk];obtain⟨e,c,h1,h2,h3⟩:=(h.A.s.l t ht).2 k hk;rw[h1];unfold Ins.gs;obtain⟨h4,h5⟩:=h.s e h2 c h3;split
 .exact⟨h5,h4⟩
 .exact⟨Zk.zero.mono (bz _),aM⟩
def Tc.own(h:Tc D g x){j b c:Nat}(hb:b<g.e.length)(hc:c<kE g.e b):Zk D 1 (Nu g x j b c):=by
 unfold Nu;split
 .exact(h.s b hb c hc).2
 .exact Zk.zero.mono (bz _)
def Tc.A'(h:Tc D g x){i c j b:Nat}(hb:b<g.e.length)(hc:b=i->c<=kE g.e b):Zk D 1000 (Oz g x i c j b):=by
 have hk:=h.A.s.k b hb;unfold Oz;split
 .exact(Zk.yK λc hc=>h.own hb hc).mono hk
 .split
  .next e=>
   subst e;exact(Zk.yK λc' hc'=>h.own hb jb).mono jb
  .exact Zk.zero.mono (bz _)
theorem Tc.dM(h:Tc D g x){t:Nat}(ht:t<g.d.length)(j i:Nat):Zk D 2002000 (dM (aY g) x j i (dW g t,dL g t)):=by
 have hl:=(h.A.s.l t ht).1;have hlen:=Io g t;have hz:Zk D 1000 (aG (dL g t) (Ins.gs (aY g) x i)):=(SA λa ha=>(h.gs ht i a ha).1).mono jb;have hr:=Td (W:=dW g t) (q:=gq (aY g) x) (j:=j) (Q:=0) (K:=0) (M:=1000) (dL g t) (λa ha=>(h.gs ht i a ha).1) Zk.zero Zk.zero jb;unfold Ins.dM;refine Zk.mono (Zk.add (k:=2000) (l:=2000000) ?_ (hr.mono ?_)) jb
 .split
  .refine(hz.sub (l:=1000) ?_).mono jb;unfold mX;split
   .exact hz
   .exact Zk.zero.mono (bz _)
  .exact Zk.zero.mono (bz _)
 omega
def Tc.U(h:Tc D g x){t:Nat}(ht:t<g.d.length)(i k j:Nat):Zk D 2002000 (PW g x t i k j):=by have hl:=(h.A.s.l t ht).1;have hlen:=Io g t;have hr:=Td (W:=dW g t) (q:=gq (aY g) x) (j:=j) (Q:=0) (K:=0) (M:=1000) ((dL g t).take k) (λa ha=>(h.gs ht i a (du ha)).1) Zk.zero Zk.zero kd;refine hr.mono ?_;grind
def Tc.P(h:Tc D g x){t j b:Nat}(ht:t<=g.d.length)(hb:b<g.e.length):Zk D 2002001000 (mgP g x t j b):=by
 have hk:=h.A.s.k b hb;have hd:=h.A.s.d;have h1:Zk D 1000 (aA (kE g.e b) (Nu g x j b)):=(Zk.yK λc hc=>h.own hb hc).mono hk;have h2:∀t,t<=g.d.length->Zk D (t*2002000) (aG ((aY g).ds.take t) (Ins.dM (aY g) x j b)):=λt=>by
  induction t with
  |zero=>intro _;exact Zk.zero.mono (bz _)
  |succ t ih=>
   intro ht
   rw[bD (by grind[wF]),lN,Nk ht,ck]
   exact(ih jb).add (h.dM ht j b)
 exact(h1.add (h2 t ht)).mono jb
def Tc.D'(h:Tc D g x){t i j b:Nat}{u:Nat->Rat}(ht:t<g.d.length)(hb:b<g.e.length)(hu:Zk D 2002000 (u j)):Zk D 2004003000 (Il g x t i u j b):=by
 unfold Il;refine Zk.mono (Zk.add (l:=2002000) (h.P (gS ht) hb) ?_) jb;split
 .exact h.dM ht j b
 .split
  .exact hu
  .exact Zk.zero.mono (bz _)
end
def adf{n:Nat}{tk:Int->Bool}{x:Eh}(h:Yf n tk x=0):(x.k=Int.negSucc 0/\x.b=true\/∃c:Nat,c<n/\x.k=Int.ofNat c/\tk x.k=false)/\(x.b=true->¬sg x.a.q<0):=by
 unfold Yf at h;split at h
 .cases h
 .split at h
  .cases h
  .split at h
   .cases h
   .split at h
    .cases h
    .next h1 h2 h3 h4=>
     refine⟨?_,λhb hs=>h3 ⟨hb,hs⟩⟩;by_cases e:x.k=-1
     .refine .inl ⟨e,?_⟩;cases hb:x.b with
      |true=>rfl
      |false=>exact absurd ⟨e,hb⟩ h2
     .obtain⟨c,hc⟩:=ce (show 0<=x.k by omega);refine .inr ⟨c,jb,hc,?_⟩;cases ht:tk x.k with
      |false=>rfl
      |true=>exact absurd ⟨e,ht⟩ h4
def adg{n:Nat}{tk:Int->Bool}{a:iK}(h:U6 n tk a=0):(a.length<=24/\∀i,i<a.length->(ix a i).length<=24)/\∀k,k<a.flatten.length->Yf n tk (ix a.flatten k)=0:=by
 unfold U6 at h;split at h
 .cases h
 .next h1=>
  refine⟨Bf.mp (by simpa using h1),λk hk=>?_⟩;obtain⟨t,ht,hx⟩:=List.mem_flatten.mp (kN hk);obtain⟨i,hi,rfl⟩:=aE ht;obtain⟨j,hj,e⟩:=aE hx;have:=iy (iy h i hi) j (by rw[fJ hi];exact hj);rw[fJ hi,fJ hj,e]at this;exact this
def adh{σ:St}(hW:WF σ){p:Nat->Prop}{v:B}{n:Nat}{T:Nat->B}(hv:aZ p σ.h 1 v n λi=>[T i])(hT:∀i,i<n->∃k:Nat,lenV (.c (T i))=some (.c (.int .i64 (.ofNat k)))/\k<=24)(hn:n<=1000):
  aC EN 171 [.c v,.fn 132 []] σ λr σ'=>r=.c (.int .i64 (.negSucc 0))/\Fr σ σ':=by
 refine aN (fC.o _ _) fC.h ?_
 unfold fC
 dsimp only
 have hlen:=aZ.len hv
 have hc:=λ(args:List V) (σ:St) (K:V->St->Prop)=>jS (E:=EN) (K:=K) (iL.o args σ) iL.h
 unfold iL at hc
 dsimp only at hc
 simp(disch:=try exact jz) only[go_sem,z3,hlen]
 refine aF (λq tm σ'=>∃j,q=n-j/\j<=n/\Tr.ah tm 0=.c v/\Tr.ah tm 1=.fn 132 []/\Tr.ah tm 7=.c (.int .i64 (.ofNat n))/\Tr.ah tm 8=.c (.int .i64 (.ofNat j))/\Fr σ σ') n ?_ ?_
 .refine⟨0,jb,jb,?_⟩
  simp(disch:=try exact jz) only[go_sem,z3,ap]
  exact Fr.refl hW
 .rintro q tm σ' ⟨j,rfl,hj,t0,t1,t7,t8,hf⟩
  simp(disch:=try exact jz) only[go_sem,z3,t0,t1,t7,t8,aH]
  refine aJ (λhlt=>?_) (λhlt=>?_)
  .obtain⟨b,o,c,rfl,hld⟩:=HL.one (aZ.hl hv) jb
   have hld:=hf.ld hW (hld j hlt)
   obtain⟨k,hk,hk2⟩:=hT j hlt
   have hd:decide ((Int.ofNat 24:Int)<Int.ofNat k)=false:=aw (by show¬((24:Int)<(k:Int));omega)
   simp(disch:=try exact jz) only[go_sem,z3,t0,t1,t7,t8,hld,hc,hk,hd]
   exact⟨n-(j+1),jb,j+1,rfl,jb,rfl,hf⟩
  .have:j=n:=jb
   subst this
   simp(disch:=try exact jz) only[go_sem,z3,t0]
   exact hf
def ahk{E:Env}[Yj E]{σ:St}(hW:WF σ){p:Nat->Prop}{v:B}{a:iK}(ha:fE p σ.h v a)(h1:a.length<=1000000)(h2:a.flatten.length<=1000000):
  aC E 133 [.c v] σ λr σ'=>(∃u,r=.c u/\Bg (Lt σ'.aj) σ'.h u a.flatten)/\Fr σ σ':=by
 by_cases h0:a.flatten.length=0
 .rw[VX ha h1 h2 (v':=.c .bg) (σ':=σ) (ae h0)]
  exact⟨⟨_,rfl,.inl ⟨h0,rfl⟩⟩,Fr.refl hW⟩
 .rw[VX ha h1 h2 (ab h0)]
  exact⟨⟨_,rfl,bf _ (aB _ _ _) (DZ _ _ jj) (bO _) (λ_=>rfl) jj λ_ _=>rfl⟩,fr⟩
def as5{σ:St}(hW:WF σ){p:Nat->Prop}{v tv:B}{a:iK}{nc:Nat}{tk:Int->Bool}(ha:fE p σ.h v a)(ht:HL σ.h 1 tv nc λi=>[.bool (tk (Int.ofNat i))])(hn:nc<=1000)(hz:U6 nc tk a=0)(hnf:a.flatten.length<=1000000)(hfp:∀k,k<a.flatten.length->(ix a.flatten k).a.fits 1000000):
  aC EN 90 [.agg [v],.c tv] σ λr σ'=>r=.c (.int .i64 (.ofNat 0))/\Fr σ σ':=by
 refine aN (iY.o _ _) iY.h ?_
 unfold iY
 dsimp only
 obtain⟨⟨hl,hlt⟩,hc0⟩:=adg hz
 have ha':=ha
 obtain⟨T,hT,hP⟩:=ha'
 have hvk:=hT.kn
 have hvl:=aZ.len hT
 have htk:=ht.kn
 have htl:=ht.len
 have hFr:=Fr.refl hW
 have hd:decide ((Int.ofNat 24:Int)<Int.ofNat a.length)=false:=aw (by show¬((24:Int)<(a.length:Int));omega)
 have hcf:=λ(args:List V) (σ:St) (K:V->St->Prop)=>jS (E:=EN) (K:=K) (dS.o args σ) dS.h
 unfold dS at hcf
 dsimp only at hcf
 simp(disch:=try exact jz) only[go_sem,z3,hvk,hvl,htk,hd,hcf]
 refine aC.st (Fr σ) (fr) λhF=>?_
 refine(adh hF.wf (aZ.fr hW hF hT) (λi hi=>⟨_,aZ.len (hP i hi),hlt i hi⟩) jb).mono ?_
 rintro _ σ2 ⟨rfl,hf2⟩
 have hF2:=hF.trans hf2
 have q2:=hf2.get hF.wf (aB _ _ _)
 simp(disch:=try exact jz) only[go_sem,z3,show(Int.ofNat 0<=Int.negSucc 0)=False from propext ⟨λh=>absurd h jj,False.elim⟩,ak q2,hvk]
 refine(ahk hf2.wf (ha.fr hW hF2) jb hnf).mono ?_
 rintro _ σ3 ⟨⟨u,rfl,hu⟩,hf3⟩
 have hF3:=hF2.trans hf3
 have hul:=aZ.len hu
 have huk:=aZ.kn hu
 generalize a.flatten=l at*
 simp(disch:=try exact jz) only[go_sem,z3,hul,huk]
 refine aF (λq tm σ'=>∃j,q=l.length-j/\j<=l.length/\Tr.ah tm 1=.c tv/\Tr.ah tm 19=.c u/\Tr.ah tm 20=.c (.int .i64 (.ofNat l.length))/\Tr.ah tm 21=.c (.int .i64 (.ofNat j))/\Fr σ3 σ') l.length ?_ ?_
 .refine⟨0,jb,jb,?_⟩
  simp(disch:=try exact jz) only[go_sem,z3,ap]
  exact Fr.refl hf3.wf
 .rintro q tm σ' ⟨j,rfl,hj,t1,t19,t20,t21,hf⟩
  simp(disch:=try exact jz) only[go_sem,z3,t1,t19,t20,t21,aH]
  refine aJ (λhlt=>?_) (λhlt=>?_)
  .obtain⟨b,o,c,rfl,-,hld⟩:=aZ.pos hu jb
   have hld:=hf.ld hf3.wf (hld j hlt)
   unfold Jb at hld
   obtain⟨h1,h2⟩:=adf (hc0 j hlt)
   have hfit:=nU (hfp j hlt) jj
   have hraw:rq (ix l j).a.n (ix l j).a.s (ix l j).a.d=(ix l j).a.q:=rfl
   have hle:=hf.le
   have jQ:=Fr.refl hf.wf
   rcases h1 with⟨e1,e2⟩|⟨k,hk,e1,e2⟩
   .rw[e1,e2]at hld
    have hsg:decide (sg (ix l j).a.q<Int.ofNat 0)=false:=aw (h2 e2)
    simp(disch:=try exact jz) only[go_sem,z3,t1,t19,t20,t21,hld,hsg,hraw]
    exact⟨l.length-(j+1),jb,j+1,rfl,jb,rfl,fr⟩
   .rw[e1]at hld e2
    obtain⟨b2,o2,c2,rfl,Dw⟩:=HL.one ht jb
    have Dw:=(hF3.trans hf).ld hW (Dw k hk)
    have hb2:=hf.wf.dw Dw
    rw[e2]at Dw
    have d1:decide (Int.ofNat k=Int.negSucc 0)=false:=rfl
    have d2:decide (Int.ofNat k<Int.ofNat 0)=false:=aw (by show¬((k:Int)<0);omega)
    have d3:decide (Int.ofNat nc<=Int.ofNat k)=false:=aw (by show¬((nc:Int)<=(k:Int));omega)
    cases hb:(ix l j).b with
    |true=>
     rw[hb]at hld
     have hsg:decide (sg (ix l j).a.q<Int.ofNat 0)=false:=aw (h2 hb)
     simp(disch:=try exact jz) only[go_sem,z3,t1,t19,t20,t21,hld,hsg,hraw,d1,d2,d3,htl,Dw]
     exact⟨l.length-(j+1),jb,j+1,rfl,jb,rfl,fr⟩
    |false=>
     rw[hb]at hld
     simp(disch:=try exact jz) only[go_sem,z3,t1,t19,t20,t21,hld,d1,d2,d3,htl,Dw]
     exact⟨l.length-(j+1),jb,j+1,rfl,jb,rfl,fr⟩
  .simp(disch:=try exact jz) only[go_sem,z3,ap]
   exact hF3.trans hf
def adi{x:C5}(h:Ja x=0): -1<=x.h/\x.h<8/\0<=x.r/\x.r<=7/\¬sg x.a.q<0:=by
 unfold Ja at h;split at h
 .cases h
 .split at h
  .cases h
  .split at h
   .cases h
   .omega
def adk{e:Bc}(h:FN e=0):e.c.length<=24/\e.a.length<=12/\¬sg e.m.q<0/\(∀i,i<e.c.length->Ja (ix e.c i)=0)/\∀k,k<e.a.length->U6 e.c.length (yj e.a k) (ix e.a k)=0:=by
 unfold FN at h;split at h
 .cases h
 .split at h
  .cases h
  .split at h
   .next h3=>exact absurd h h3
   .next h1 h2 h3=>exact⟨jb,jb,h2,iy (by simpa using h3),iy h⟩
def tkS(f:Int->Bool)(L:List Int)(l k:Nat):Bool:=f (Int.ofNat k)||(L.take l).contains (Int.ofNat k)
def alf{n l c:Nat}{f:Int->Bool}{L:List Int}(hl:l<L.length)(hc:ix L l=Int.ofNat c):ones n (aT (λk=>B.bool (tkS f L l k)) c (.bool true))=ones n λk=>.bool (tkS f L (l+1) k):=dQ λk _=>by
 unfold aT tkS;rw[bD hl,hc,List.contains_append];by_cases e:k=c
 .subst e;rw[ae rfl];simp
 .rw[ab e];have:([Int.ofNat c].contains (Int.ofNat k))=false:=by simp;omega
  rw[this];simp
def alg{l:List iK}{j:Nat}(hj:j<l.length)(k:Nat):tkS (yj l j) (uI (ix l j)) (uI (ix l j)).length k=yj l (j+1) (Int.ofNat k):=by unfold tkS;rw[bX,acB hj];congr 1;rw[Bool.eq_iff_iff,List.contains_iff_mem,pI];exact⟨λh=>h.2,λh=>⟨by show(k:Int)≠-1;omega,h⟩⟩
def as6{σ:St}(hW:WF σ){p:Nat->Prop}{e:Bc}{C A:B}(hc:FQ p σ.h C e.c)(ha:mJ p σ.h A e.a)(hz:FN e=0)(hm:e.m.fits 1000000)(hfc:∀k,k<e.c.length->(ix e.c k).a.fits 1000000)
  (hA:∀j,j<e.a.length->(ix e.a j).length<=1000/\(ix e.a j).flatten.length<=1000000/\(∀k,k<(ix e.a j).flatten.length->(ix (ix e.a j).flatten k).a.fits 1000000)/\∀t∈ix e.a j,∀x∈t,x.k=-1\/0<=x.k/\x.k<e.c.length):
  aC EN 52 [.agg [.bool e.m.n,.str e.m.s,.str e.m.d,C,A]] σ λr σ'=>r=.c (.int .i64 (.ofNat 0))/\Fr σ σ':=by
 refine aN (pK.o _ _) pK.h ?_
 unfold pK
 dsimp only
 obtain⟨h1,h2,h3,h4,h5⟩:=adk hz
 have hck:=aZ.kn hc
 have hcl:=aZ.len hc
 have hak:=ha.kn
 have hal:=ha.choose_spec.1.len
 have hFr:=Fr.refl hW
 have hfit:=nU hm jj
 have hraw:rq e.m.n e.m.s e.m.d=e.m.q:=rfl
 have hsg:decide (sg e.m.q<Int.ofNat 0)=false:=aw h3
 have d1:decide ((Int.ofNat 24:Int)<Int.ofNat e.c.length)=false:=aw (by show¬((24:Int)<(e.c.length:Int));omega)
 have d2:decide ((Int.ofNat 12:Int)<Int.ofNat e.a.length)=false:=aw (by show¬((12:Int)<(e.a.length:Int));omega)
 simp(disch:=try exact jz) only[go_sem,z3,hck,hcl,hak,hal,hsg,hraw,d1,d2]
 refine bK.mono (Q:=λex tm σ'=>ex=.exit 1/\Tr.ah tm 1=.c (.ptr σ.aj 0)/\σ'.h σ.aj=some ⟨[.bool e.m.n,.str e.m.s,.str e.m.d,C,A],none⟩/\Fr σ σ'/\σ.aj+1<=σ'.aj)
  (aF (λq tm σ'=>∃i,q=e.c.length-i/\i<=e.c.length/\Tr.ah tm 1=.c (.ptr σ.aj 0)/\Tr.ah tm 28=.c C/\Tr.ah tm 29=.c (.int .i64 (.ofNat e.c.length))/\Tr.ah tm 30=.c (.int .i64 (.ofNat i))/\σ'.h σ.aj=some ⟨[.bool e.m.n,.str e.m.s,.str e.m.d,C,A],none⟩/\Fr σ σ'/\σ.aj+1<=σ'.aj) e.c.length ?_ ?_) ?_
 .refine⟨0,jb,jb,?_⟩
  simp(disch:=try exact jz) only[go_sem,z3,ap]
  exact⟨fr,jp⟩
 .rintro q tm σ' ⟨i,rfl,hi,t1,t28,t29,t30,q1,hf,hnx⟩
  simp(disch:=try exact jz) only[go_sem,z3,t1,t28,t29,t30,aH]
  refine aJ (λhlt=>?_) (λhlt=>?_)
  .obtain⟨b,o,c,rfl,-,hld⟩:=aZ.pos hc jb
   have hld:=hf.ld hW (hld i hlt)
   unfold c5B at hld
   obtain⟨g1,g2,g3,g4,g5⟩:=adi (h4 i hlt)
   have hfit:=nU (hfc i hlt) jj
   have hraw:rq (ix e.c i).a.n (ix e.c i).a.s (ix e.c i).a.d=(ix e.c i).a.q:=rfl
   have hsg:decide (sg (ix e.c i).a.q<Int.ofNat 0)=false:=aw g5
   have e1:decide ((ix e.c i).h<Int.negSucc 0)=false:=aw (by show¬(ix e.c i).h< -1;omega)
   have e2:decide (Int.ofNat 8<=(ix e.c i).h)=false:=aw (by show¬8<=(ix e.c i).h;omega)
   have e3:decide ((ix e.c i).r<Int.ofNat 0)=false:=aw (by show¬(ix e.c i).r<0;omega)
   have e4:decide (Int.ofNat 7<(ix e.c i).r)=false:=aw (by show¬7<(ix e.c i).r;omega)
   have hle:=hf.le
   have jQ:=Fr.refl hf.wf
   have hl1:=hf.wf.lt q1
   simp(disch:=try exact jz) only[go_sem,z3,t1,t28,t29,t30,hld,hsg,hraw,e1,e2,e3,e4,q1]
   exact⟨e.c.length-(i+1),jb,i+1,rfl,jb,rfl,fr,jb⟩
  .simp(disch:=try exact jz) only[go_sem,z3,ap]
   exact⟨t1,q1,hf,hnx⟩
 .rintro _ Hl σ1 ⟨rfl,t1,q1,hf1,hn1⟩
  have hle1:=hf1.le
  have ac3:=Fr.refl hf1.wf
  have hl1:=hf1.wf.lt q1
  simp(disch:=try exact jz) only[go_sem,z3,t1,ak q1,q1,hck,hcl,hak,hal]
  refine aF (λq tm σ'=>∃j,q=e.a.length-j/\j<=e.a.length/\Tr.ah tm 5=.c (.sl σ1.aj 0 e.c.length (.ex e.c.length))/\Tr.ah tm 63=.c A/\Tr.ah tm 64=.c (.int .i64 (.ofNat e.a.length))/\Tr.ah tm 65=.c (.int .i64 (.ofNat j))
   /\σ'.h σ1.aj=some ⟨ones e.c.length λk=>.bool (yj e.a j (Int.ofNat k)),none⟩/\Fr σ σ'/\σ1.aj+1<=σ'.aj) e.a.length ?_ ?_
  .refine⟨0,jb,jb,?_⟩
   simp(disch:=try exact jz) only[go_sem,z3,ap]
   exact⟨rfl,fr,jp⟩
  .rintro q tm σ' ⟨j,rfl,hj,t5,t63,t64,t65,q5,hf,hnx⟩
   simp(disch:=try exact jz) only[go_sem,z3,t5,t63,t64,t65,aH]
   refine aJ (λhlt=>?_) (λhlt=>?_)
   .obtain⟨b,o,c,rfl,T,hld,hT⟩:=ha.at hlt
    have hld:=hf.ld hW hld
    obtain⟨a1,a2,a3,a4⟩:=hA j hlt
    have hTk:=hT.kn
    have hle:=hf.le
    have jQ:=Fr.refl hf.wf
    simp(disch:=try exact jz) only[go_sem,z3,t5,t63,t64,t65,hld,hTk]
    refine aC.st (Fr σ') (fr) λhF=>?_
    have q5F:=hF.get hf.wf q5
    have hTF:=hT.fr hW (hf.trans hF)
    refine(as5 hF.wf hTF (aZ.hl (p:=λ_=>True) (bf (G:=λk=>[.bool (yj e.a j (Int.ofNat k))]) (.ex e.c.length) q5F rfl trivial (λ_=>rfl) jj λ_ _=>rfl)) jb (h5 j hlt) a2 a3).mono ?_
    rintro _ σ2 ⟨rfl,hf2⟩
    have hF2:=hF.trans hf2
    have q7:=hf2.get hF.wf (aB _ _ _)
    have d0:decide ((0:Int)=Int.ofNat 0)=true:=rfl
    simp(disch:=try exact jz) only[go_sem,z3,ak q7,hTk,t5,d0]
    refine(PO hf2.wf (hT.fr hW (hf.trans hF2)) jb a2).mono ?_
    rintro _ σ3 ⟨⟨u,rfl,hu⟩,hf3⟩
    have hF3:=hF2.trans hf3
    have hul:=hu.len
    have huk:=hu.kn
    have q53:=hF3.get hf.wf q5
    have hle3:=hF3.le
    have hle2:=hF2.le
    have hm9:=rQ a4
    have hall:=alg hlt
    have hu2:=hu.hlp (p:=λb=>σ2.aj<=b) (λ_=>rfl) jj (λ_ _=>rfl) λb h1 _=>h1
    have awo:(uI (ix e.a j)).length<=1000000000:=by rw[<-MX];exact ag (Ej a4) jb
    generalize uI (ix e.a j)=L at*
    have hz0:ones e.c.length (λk=>B.bool (yj e.a j (Int.ofNat k)))=ones e.c.length λk=>.bool (tkS (yj e.a j) L 0 k):=dQ λk _=>by unfold tkS;rw[cE];simp
    rw[hz0]at q53
    have au5:=hf.trans hF3
    simp(disch:=try exact jz) only[go_sem,z3,hul,huk]
    refine bK.mono (Q:=λex tm σ4=>ex=.exit 6/\Tr.ah tm 5=.c (.sl σ1.aj 0 e.c.length (.ex e.c.length))/\Tr.ah tm 63=.c (.sl b o e.a.length c)/\Tr.ah tm 64=.c (.int .i64 (.ofNat e.a.length))/\Tr.ah tm 65=.c (.int .i64 (.ofNat j))
     /\σ4.h σ1.aj=some ⟨ones e.c.length λk=>.bool (tkS (yj e.a j) L L.length k),none⟩/\Fr σ σ4/\σ3.aj<=σ4.aj)
     (aF (λq tm σ4=>∃l,q=L.length-l/\l<=L.length/\Tr.ah tm 5=.c (.sl σ1.aj 0 e.c.length (.ex e.c.length))/\Tr.ah tm 63=.c (.sl b o e.a.length c)/\Tr.ah tm 64=.c (.int .i64 (.ofNat e.a.length))/\Tr.ah tm 65=.c (.int .i64 (.ofNat j))/\Tr.ah tm 76=.c u/\Tr.ah tm 77=.c (.int .i64 (.ofNat L.length))/\Tr.ah tm 78=.c (.int .i64 (.ofNat l))
     /\σ4.h σ1.aj=some ⟨ones e.c.length λk=>.bool (tkS (yj e.a j) L l k),none⟩/\Fr σ σ4/\aP [σ1.aj] σ3 σ4) L.length ?_ ?_) ?_
    .refine⟨0,jb,jb,?_⟩
     simp(disch:=try exact jz) only[go_sem,z3,t5,t63,t64,t65,ap]
     exact⟨q53,au5,(Fr.refl hf3.wf).ex _⟩
    .rintro q tm σ4 ⟨l,rfl,hl,t5,t63,t64,t65,t76,t77,t78,q54,hf4,hfe⟩
     simp(disch:=try exact jz) only[go_sem,z3,t5,t63,t64,t65,t76,t77,t78,aH]
     refine aJ (λOm=>?_) (λOm=>?_)
     .obtain⟨b7,o7,c7,rfl,hp7,dh⟩:=aZ.pos hu2 jb
      have hp7:σ2.aj<=b7:=hp7
      have dh:=hfe.ld hf3.wf (by simp;omega) (dh l Om)
      have dh:=(zG dh).1
      obtain⟨m1,m2⟩:=hm9 _ (kN Om)
      obtain⟨cc,hcc⟩:=ce m1
      have hst:=alf (n:=e.c.length) (f:=yj e.a j) Om hcc
      have au6:ix L l=Int.ofNat cc:=hcc
      have hcn:cc<e.c.length:=jb
      have awp:=hf4.wf.lt q54
      have yH:=hfe.le
      have Em:=Fr.refl hf4.wf
      rw[au6]at dh
      simp(disch:=try exact jz) only[go_sem,z3,t5,t63,t64,t65,t76,t77,t78,dh,q54,aI q54,hst]
      exact⟨L.length-(l+1),jb,l+1,rfl,jb,rfl,rfl,fr,by repeat(first|assumption|exact aP.refl (by assumption)|exact aP.up (by assumption) kf|exact aP.up (aP.refl (by assumption)) kf|refine aP.set1 ?_ kg kf|refine aP.jV ?_ kg|refine aP.mG ?_ kg|refine aP.nG ?_ kf)⟩
     .have:l=L.length:=jb
      subst this
      simp(disch:=try exact jz) only[go_sem,z3,ap]
      exact⟨t5,t63,t64,t65,q54,hf4,hfe.le⟩
    .rintro _ tm4 σ4 ⟨rfl,t5,t63,t64,t65,q54,hf4,hn4⟩
     simp(disch:=try exact jz) only[go_sem,z3,t5,t63,t64,t65]
     refine⟨e.a.length-(j+1),jb,j+1,rfl,jb,rfl,?_,hf4,jb⟩
     rw[q54]
     exact bM (λl=>some (Bk.mk l none)) (dQ λk _=>bM B.bool (hall k))
   .simp(disch:=try exact jz) only[go_sem,z3,ap]
    exact hf
def lkC(o:Option Bk)(e j:Int):Option V:=match o with
 |some ⟨c,some (0,0)⟩=>bif GV .i64 e&&GV .i64 j then some (.c (.bool (hasB c e j)))else none
 |_=>none
def upC(o:Option Bk)(e j:Int):Option Bk:=match o with
 |some ⟨c,some (0,0)⟩=>bif GV .i64 e&&(GV .i64 j&&Nat.ble c.length 1000)then some ⟨c++[.int .i64 e,.int .i64 j],some (0,0)⟩else none
 |_=>none
def ahl(m k x:O)(tm:Tr V)(σ:St):rY (.Qz m k x) tm σ=match m.ev tm,k.ev tm,x.ev tm with
  |.c (.mp b),.agg [.int .i64 e,.int .i64 j],.c (.bool true)=>(match upC (σ.h b) e j with|some k=>some (.und,⟨hset σ.h b k,σ.aj⟩)|none=>none)
  |_,_,_=>none:=by
 simp only[rY]
 generalize m.ev tm=M
 generalize k.ev tm=Y
 generalize x.ev tm=X
 rcases M with⟨_|_|_|_|_|_|_|_|b|_⟩|_|_|_|_|_|_<;>try rfl
 rcases Y with _|l|_|_|_|_|_<;>try rfl
 rcases l with _|⟨p,_|⟨q,_|⟨_,_⟩⟩⟩<;>try rfl
 .cases p<;>try rfl
  next y e=>cases y<;>rfl
 .rcases p with⟨y,e⟩|_|_|_|_|_|_|_|_|_<;>try rfl
  cases y<;>try rfl
  rcases q with⟨y,j⟩|_|_|_|_|_|_|_|_|_<;>try rfl
  cases y<;>try rfl
  rcases X with⟨_|u|_|_|_|_|_|_|_|_⟩|_|_|_|_|_|_<;>try rfl
  cases u<;>try rfl
  dsimp only
  unfold upC
  generalize hg:σ.h.get b=G
  rcases G with _|⟨c,_|⟨u,v⟩⟩<;>try rfl
  cases u<;>try rfl
  cases v<;>try rfl
  cases hQ:GV .i64 e&&(GV .i64 j&&Nat.ble c.length 1000)with
  |true=>simp only[hQ,cg];rfl
  |false=>simp only[hQ,eN]
 .rcases p with⟨y,e⟩|_|_|_|_|_|_|_|_|_<;>try rfl
  cases y<;>try rfl
  rcases q with⟨y,j⟩|_|_|_|_|_|_|_|_|_<;>try rfl
  cases y<;>rfl
section
variable {E:Env} (tm:Tr V) (σ:St) (K:V→St→Prop)
def alh:wpOp E .IJ tm σ K=K (.c (.mp σ.aj)) ⟨hset σ.h σ.aj ⟨[],some (0,0)⟩,σ.aj+1⟩:=by unfold wpOp nP;simp only[uf.kind,rY,jv]
def ahm(m k:O):wpOp E (.lookup m k) tm σ K=EF (match m.ev tm,k.ev tm with|.c (.mp b),.agg [.int .i64 e,.int .i64 j]=>lkC (σ.h b) e j|_,_=>none) λv=>K v σ:=by rw[gV _ _ _ _ (by rfl) λ_ _ h=>by cases h];rfl
def apP(m k x:O):wpOp E (.Qz m k x) tm σ K=match m.ev tm,k.ev tm,x.ev tm with
  |.c (.mp b),.agg [.int .i64 e,.int .i64 j],.c (.bool true)=>(match upC (σ.h b) e j with|some k=>K .und ⟨hset σ.h b k,σ.aj⟩|none=>False)
  |_,_,_=>False:=by
 unfold wpOp nP
 simp only[uf.kind,ahl]
 generalize m.ev tm=M
 generalize k.ev tm=Y
 generalize x.ev tm=X
 rcases M with⟨_|_|_|_|_|_|_|_|b|_⟩|_|_|_|_|_|_<;>try rfl
 rcases Y with _|l|_|_|_|_|_<;>try rfl
 rcases l with _|⟨p,_|⟨q,_|⟨_,_⟩⟩⟩<;>try rfl
 .cases p<;>try rfl
  next y e=>cases y<;>rfl
 .rcases p with⟨y,e⟩|_|_|_|_|_|_|_|_|_<;>try rfl
  cases y<;>try rfl
  rcases q with⟨y,j⟩|_|_|_|_|_|_|_|_|_<;>try rfl
  cases y<;>try rfl
  rcases X with⟨_|u|_|_|_|_|_|_|_|_⟩|_|_|_|_|_|_<;>try rfl
  cases u<;>try rfl
  dsimp only
  cases upC (σ.h b) e j<;>rfl
 .rcases p with⟨y,e⟩|_|_|_|_|_|_|_|_|_<;>try rfl
  cases y<;>try rfl
  rcases q with⟨y,j⟩|_|_|_|_|_|_|_|_|_<;>try rfl
  cases y<;>rfl
end
def OA:List Ins.Lg->List B
 |[]=>[]
 |x::r=>.int .i64 x.e:: .int .i64 x.k::OA r
def aaY:∀(l r:List Ins.Lg),OA (l++r)=OA l++OA r
 |[],_=>rfl
 |x::l,r=>by show _::_::OA (l++r)=_;rw[aaY l r];rfl
def ahn(l:List Ins.Lg)(x:Ins.Lg):OA l++[.int .i64 x.e,.int .i64 x.k]=OA (l++[x]):=by rw[aaY];rfl
def aaZ:∀l:List Ins.Lg,(OA l).length=2*l.length
 |[]=>rfl
 |x::l=>by show(OA l).length+1+1=_;rw[aaZ l,bL];omega
def Wn(e j:Int):∀l:List Ins.Lg,hasB (OA l) e j=FP l ⟨e,j⟩
 |[]=>rfl
 |x::l=>by
  show(bif eqI x.e e&&eqI x.k j then true else hasB (OA l) e j)=(x.e==e&&x.k==j||FP l ⟨e,j⟩)
  rw[Wn e j l];have h1:eqI x.e e=(x.e==e):=by rw[Bool.eq_iff_iff,QB,beq_iff_eq]
  have h2:eqI x.k j=(x.k==j):=by rw[Bool.eq_iff_iff,QB,beq_iff_eq]
  rw[h1,h2];cases(x.e==e&&x.k==j)<;>rfl
def JV{n:Nat}(h:n<=9223372036854775807):GV .i64 (.ofNat n)=true:=eE h
def apQ(l:List Ins.Lg)(a b:Nat)(ha:a<=9223372036854775807)(hb:b<=9223372036854775807)(hl:l.length<=500):upC (some ⟨OA l,some (0,0)⟩) (.ofNat a) (.ofNat b)=some ⟨OA (l++[⟨.ofNat a,.ofNat b⟩]),some (0,0)⟩:=by have h2:Nat.ble (OA l).length 1000=true:=eE (by rw[aaZ];omega);show(bif GV .i64 (.ofNat a)&&(GV .i64 (.ofNat b)&&Nat.ble (OA l).length 1000)then _ else none)=_;rw[JV ha,JV hb,h2,<-ahn];rfl
def apR(l:List Ins.Lg)(a b:Nat)(ha:a<=9223372036854775807)(hb:b<=9223372036854775807):lkC (some ⟨OA l,some (0,0)⟩) (.ofNat a) (.ofNat b)=some (.c (.bool (FP l ⟨.ofNat a,.ofNat b⟩))):=by show(bif GV .i64 (.ofNat a)&&GV .i64 (.ofNat b)then some (V.c (.bool (hasB (OA l) (.ofNat a) (.ofNat b))))else none)=_;rw[JV ha,JV hb,Wn];rfl
attribute [go_sem] alh ahm apP apQ apR
def PY{g:iD}{d k:Nat}(h:acC g d k=0):∃a b:Nat,ix (ix g.d d).l k=⟨.ofNat a,.ofNat b⟩/\a<g.e.length/\b<(ix g.e a).c.length/\FP (lX g.d d k) ⟨.ofNat a,.ofNat b⟩=false/\holdL g.e ⟨.ofNat a,.ofNat b⟩=holdL g.e (ix (ix g.d d).l 0):=by
 unfold acC at h;dsimp only at h;split at h
 .cases h
 .next h1=>
  split at h
  .cases h
  .next h2=>
   split at h
   .cases h
   .next h3=>
    generalize ix (ix g.d d).l k=x at*;obtain⟨xe,xk⟩:=x;dsimp only at h1;obtain⟨a,rfl⟩:=ce (show 0<=xe by omega);obtain⟨b,rfl⟩:=ce (show 0<=xk by omega);rw[fW]at h1;exact⟨a,b,rfl,jb,jb,by simpa using h2,by simpa using h3⟩
def Ze{l:List D5}{d k:Nat}(hk:k<(ix l d).l.length):lX l d (k+1)=lX l d k++[ix (ix l d).l k]:=by unfold lX;rw[bD hk,gN]
def Nw{l:List D5}{d:Nat}(hd:d<l.length):lX l d (ix l d).l.length=lX l (d+1) 0:=by unfold lX;rw[bX,cE,dc,bD hd,cH];simp
def PZ{σ:St}(hW:WF σ){p:Nat->Prop}{ev dv:B}{g:iD}(hg:xK p σ.h ev dv g){a b:Nat}(ha:a<g.e.length)(hb:b<(ix g.e a).c.length)(hn:g.e.length<=1000)(hc:(ix g.e a).c.length<=1000):
  aC EN 92 [.agg [ev,dv],.agg [.int .i64 (.ofNat a),.int .i64 (.ofNat b)]] σ λr σ'=>r=.c (.int .i64 (holdL g.e ⟨.ofNat a,.ofNat b⟩))/\Fr σ σ':=by
 refine aN (oq.o _ _) oq.h ?_
 unfold oq
 dsimp only
 have hdk:=hg.d.kn
 obtain⟨b5,o5,c5,rfl,C1,A1,bP,-,hC,hA1⟩:=hg.e.at ha
 obtain⟨b8,o8,c8,rfl,-,mY⟩:=aZ.pos hC jb
 have mY:=mY b hb
 unfold c5B at mY
 have l3:=Ba bP 3 1 false jj jj
 have l4:=yX mY 1 false jj jj
 have m2:=hW.dw l3
 have m3:=hW.dw l4
 have hFr:=Fr.refl hW
 simp(disch:=try exact jz) only[go_sem,z3,hdk,l3,l4]
 exact⟨rfl,fr⟩
def apS{σ:St}(hW:WF σ){p p':Nat->Prop}{ev dv:B}{g:iD}(hg:xK p σ.h ev dv g){d mb:Nat}(hp:∀b,p b->b<mb)(hp':∀b,p' b->b<mb){Lv:B}(hL:LJ p' σ.h Lv (ix g.d d).l)(hm:σ.h mb=some ⟨OA (lX g.d d 0),some (0,0)⟩)(hz:Q5 g d=0)(hw:(ix g.d d).w.fits 1000000)(hn:g.e.length<=1000)(hc:∀i,i<g.e.length->(ix g.e i).c.length<=1000)(hl5:∀k,k<=(ix g.d d).l.length->(lX g.d d k).length<=500):
  aC EN 53 [.agg [ev,dv],.agg [.bool (ix g.d d).w.n,.str (ix g.d d).w.s,.str (ix g.d d).w.d,Lv],.c (.mp mb)] σ λr σ'=>r=.c (.int .i64 (.ofNat 0))/\σ'.h mb=some ⟨OA (lX g.d d (ix g.d d).l.length),some (0,0)⟩/\aP [mb] σ σ':=by
 refine aN (lT.o _ _) lT.h ?_
 unfold lT
 dsimp only
 unfold Q5 at hz
 split at hz
 .cases hz
 .next h1=>
  split at hz
  .cases hz
  .next h2=>
   have h3:=iy hz
   have hek:=hg.e.kn
   have hdk:=hg.d.kn
   have hLk:=aZ.kn hL
   have hLl:=aZ.len hL
   have hml:=hW.lt hm
   have hFr:=Fr.refl hW
   have hfit:=nU hw jj
   have hraw:rq (ix g.d d).w.n (ix g.d d).w.s (ix g.d d).w.d=(ix g.d d).w.q:=rfl
   have hsg:decide (sg (ix g.d d).w.q<Int.ofNat 0)=false:=aw h2
   have d1:decide ((Int.ofNat 8:Int)<Int.ofNat (ix g.d d).l.length)=false:=aw (by show¬((8:Int)<((ix g.d d).l.length:Int));omega)
   simp(disch:=try exact jz) only[go_sem,z3,hek,hdk,hLk,hLl,hsg,hraw,d1]
   refine aF (λq tm σ'=>∃k,q=(ix g.d d).l.length-k/\k<=(ix g.d d).l.length/\Tr.ah tm 2=.c (.mp mb)/\Tr.ah tm 3=.c (.ptr σ.aj 0)/\Tr.ah tm 4=.c (.ptr (σ.aj+1) 0)/\Tr.ah tm 20=.c Lv/\Tr.ah tm 21=.c (.int .i64 (.ofNat (ix g.d d).l.length))/\Tr.ah tm 22=.c (.int .i64 (.ofNat k))
    /\σ'.h mb=some ⟨OA (lX g.d d k),some (0,0)⟩/\σ'.h σ.aj=some ⟨[ev,dv],none⟩/\σ'.h (σ.aj+1)=some ⟨[.bool (ix g.d d).w.n,.str (ix g.d d).w.s,.str (ix g.d d).w.d,Lv],none⟩/\aP [mb] σ σ'/\σ.aj+1+1<=σ'.aj) (ix g.d d).l.length ?_ ?_
   .refine⟨0,jb,jb,?_⟩
    simp(disch:=try exact jz) only[go_sem,z3,ap]
    exact⟨hm,Fr.ex (fr) _,jp⟩
   .rintro q tm σ' ⟨k,rfl,hk,t2,t3,t4,t20,t21,t22,qm,q3,q4,hf,hnx⟩
    simp(disch:=try exact jz) only[go_sem,z3,t2,t3,t4,t20,t21,t22,aH]
    refine aJ (λhlt=>?_) (λhlt=>?_)
    .obtain⟨a,b,ex,ha,hb,hh,hho⟩:=PY (h3 k hlt)
     obtain⟨a0,b0,ex0,ha0,hb0,-,-⟩:=PY (h3 0 jb)
     have hko:∀b,b<mb->σ'.h b=σ.h b:=λb hb=>hf.old b jb (by simp;omega)
     have hg':xK (Lt mb) σ'.h ev dv g:=hg.keep (λb hb=>hko b (hp b hb)) hp
     have hL':LJ (Lt mb) σ'.h Lv (ix g.d d).l:=aZ.keep hL (λb hb=>hko b (hp' b hb)) hp'
     obtain⟨b6,o6,c6,rfl,hb6,bJ⟩:=aZ.pos hL' jb
     have Wp:=bJ 0 jb
     have bJ:=bJ k hlt
     unfold lgB at bJ Wp
     rw[ex]at bJ
     rw[ex0]at Wp
     obtain⟨b5,o5,c5,rfl,C1,A1,bP,-,hC,-⟩:=hg'.e.at ha
     have hCl:=aZ.len hC
     obtain⟨b8,o8,c8,rfl,-,-⟩:=aZ.pos hC jb
     have l3:=Ba bP 3 1 false jj jj
     have m2:=hf.wf.dw l3
     have m6:=hf.wf.dw bJ
     have hnn:=hn
     have hca:=hc a ha
     have au7:=hc a0 ha0
     have e1:decide (Int.ofNat a<Int.ofNat 0)=false:=aw (by show¬((a:Int)<0);omega)
     have e2:decide (Int.ofNat g.e.length<=Int.ofNat a)=false:=aw (by show¬((g.e.length:Int)<=(a:Int));omega)
     have e3:decide (Int.ofNat b<Int.ofNat 0)=false:=aw (by show¬((b:Int)<0);omega)
     have e4:decide (Int.ofNat (ix g.e a).c.length<=Int.ofNat b)=false:=aw (by show¬(((ix g.e a).c.length:Int)<=(b:Int));omega)
     have hle:=hf.le
     have jQ:=Fr.refl hf.wf
     have hlm:=hf.wf.lt qm
     simp(disch:=try exact jz) only[go_sem,z3,t2,t3,t4,t20,t21,t22,bJ,Wp,ak q3,ak q4,q3,q4,l3,hCl,e1,e2,e3,e4,qm,hh,hek,hdk]
     refine aC.st (Fr σ') (fr) λhF=>?_
     refine(PZ hF.wf (hg'.fr hf.wf hF) ha hb hn hca).mono ?_
     rintro _ σ2 ⟨rfl,hf2⟩
     have hF2:=hF.trans hf2
     have q32:=hF2.get hf.wf q3
     have q42:=hF2.get hf.wf q4
     have q82:=hf2.get hF.wf (aB _ _ _)
     have Dw:=hF2.ld hf.wf Wp
     have Zc:=Fr.refl hf2.wf
     simp(disch:=try exact jz) only[go_sem,z3,t2,t3,t4,ak q32,ak q42,ak q82,q32,q42,Dw,hek,hdk]
     refine(PZ hf2.wf (hg'.fr hf.wf hF2) ha0 hb0 hn au7).mono ?_
     rintro _ σ3 ⟨rfl,hf3⟩
     have hF3:=hF2.trans hf3
     have q33:=hF3.get hf.wf q3
     have q43:=hF3.get hf.wf q4
     have q83:=hf3.get hf2.wf q82
     have qm3:=hF3.get hf.wf qm
     have MO:=hF3.ld hf.wf Wp
     have hle3:=hF3.le
     rw[ex0]at hho
     have d5:decide (holdL g.e ⟨.ofNat a,.ofNat b⟩=holdL g.e ⟨.ofNat a0,.ofNat b0⟩)=true:=bj hho
     have awq:=hl5 k hk
     have avR:(ix g.d d).l.length<=8:=jb
     have hFE:aP [mb] σ σ3:=hf.trans (hF3.ex _)
     have awr:mb<σ3.aj:=jb
     simp(disch:=try exact jz) only[go_sem,z3,t2,t3,t4,t20,t21,t22,ak q33,ak q43,ak q83,q33,q43,q83,qm3,MO,d5]
     refine⟨(ix g.d d).l.length-(k+1),jb,k+1,rfl,jb,rfl,?_,by repeat(first|assumption|exact aP.refl (by assumption)|exact aP.up (by assumption) kf|exact aP.up (aP.refl (by assumption)) kf|refine aP.set1 ?_ kg kf|refine aP.jV ?_ kg|refine aP.mG ?_ kg|refine aP.nG ?_ kf),jb⟩
     rw[Ze hlt,ex]
    .have:k=(ix g.d d).l.length:=jb
     subst this
     simp(disch:=try exact jz) only[go_sem,z3,ap]
     exact⟨qm,hf⟩
end Go.Proofs.Xe
