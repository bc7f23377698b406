import Derived.Test.YtodnohicahohdaaGreatDoorYh33
set_option linter.all false
set_option maxRecDepth 100000
set_option maxHeartbeats 8000000
attribute [-go_sem] Go.Proofs.Xe.azd Go.Proofs.Xe.aze Go.Proofs.Xe.azf
namespace Go.Proofs.Xe
open Go.RowKit Go.Proofs.Ins
def TU(W:Rat)(q r:Nat->Rat)(k:Nat):Rat:=qg W (aF (k+1) q) (aF (k+1) r)-qg W (aF k q) (aF k r)
def adp(W:Rat):qg W 0 0=0:=by grind[qg]
theorem OO(W:Rat)(q r:Nat->Rat):∀m,aF m (TU W q r)=qg W (aF m q) (aF m r)
 |0=>(adp W).symm
 |m+1=>by rw[aF,OO W q r m];unfold TU;grind
def Vb{W:Rat}{q r:fZ->Rat}{a:fZ}(j:Nat):∀{t:List fZ}{Q R:Rat},jH W q r Q R (qg W Q R) (t++[a]) j=jH W q r Q R (qg W Q R) t j+if a.1=j then qg W (Q+aK t q+q a) (R+aK t r+r a)-qg W (Q+aK t q) (R+aK t r)else 0
 |[],Q,R=>by show(if a.1=j then qg W (Q+q a) (R+r a)-qg W Q R else 0)+0=0+if a.1=j then qg W (Q+0+q a) (R+0+r a)-qg W (Q+0) (R+0)else 0;grind
 |b::t,Q,R=>by rw[fh];unfold jH;rw[Vb];show _=_+if a.1=j then qg W (Q+(q b+aK t q)+q a) (R+(r b+aK t r)+r a)-qg W (Q+(q b+aK t q)) (R+(r b+aK t r))else 0;rw[show Q+(q b+aK t q)=Q+q b+aK t q by grind,show R+(r b+aK t r)=R+r b+aK t r by grind];grind
section
variable (g:dV) (x:Nat→Rat)
def NR(i c:Nat):Rat:=zI (bZ (ix g.e i)) (x i) c
def RF(j i c:Nat):Rat:=if yF (bH g) j i c then NR g x i c else 0
def TV(i c j b:Nat):Rat:=if b<i then aF (kE g.e b) (RF g x j b)else if b=i then aF c (RF g x j i)else 0
def mgP(t j b:Nat):Rat:=aF (kE g.e b) (RF g x j b)+aK ((bH g).ds.take t) (dM (bH g) x j b)
def LU(t i:Nat)(u:Nat->Rat)(j b:Nat):Rat:=mgP g x t j b+if b<i then dM (bH g) x j b (dW g t,dL g t)else if b=i then u j else 0
def Vd(t i k j:Nat):Rat:=jH (dW g t) (gq (bH g) x) (gs (bH g) x i) 0 0 0 ((dL g t).take k) j
def Ve(t k:Nat):Rat:=gq (bH g) x (BP (ix (ix g.d t).l k))
def JZ(t i k:Nat):Rat:=gs (bH g) x i (BP (ix (ix g.d t).l k))
end
section
variable {g:dV} {x:Nat→Rat}
def al9:TV g x 0 0=λ_ _=>0:=by funext j b;unfold TV;rw[ae jb];split<;>rfl
def ama(i:Nat):TV g x i (kE g.e i)=TV g x (i+1) 0:=by
 funext j b;unfold TV;by_cases h:b<i
 .grind
 .rw[ae h];by_cases h2:b=i
  .grind
  .rw[ae h2,ae jb];split<;>rfl
def aqX{i c hh:Nat}(hl:(bH g).fM.contains (i,c)=false)(hk:apH g i c=(hh:Int)):uI (rC (TV g x i c)) hh i (bY (TV g x i c hh i+NR g x i c))=rC (TV g x i (c+1)):=by
 funext j b;have ho:RF g x j i c=if j=hh then NR g x i c else 0:=by unfold RF yF;grind[bH,apH]
 grind[uI,rC,TV,aF]
def aaz{i c:Nat}(h:(bH g).fM.contains (i,c)=true\/apH g i c=-1):TV g x i c=TV g x i (c+1):=by
 funext j b;have ho:RF g x j i c=0:=by unfold RF yF;grind[bH,apH]
 grind[TV,aF]
def aqY{n j b:Nat}(hb:b<n):TV g x n 0 j b=mgP g x 0 j b:=by unfold TV mgP;rw[ab hb,cA];exact(da _).symm
def amb(t:Nat):mgP g x t=LU g x t 0 λ_=>0:=by grind[LU]
def RG(t i:Nat):(LU g x t i λj=>dM (bH g) x j i (dW g t,dL g t))=LU g x t (i+1) λ_=>0:=by grind[LU]
theorem amc{t j b:Nat}(h:t<g.d.length):mgP g x (t+1) j b=mgP g x t j b+dM (bH g) x j b (dW g t,dL g t):=by grind[mgP,bJ,zL,ou,Ru]
def aqZ{t n j b:Nat}(h:t<g.d.length)(hb:b<n):LU g x t n (λ_=>0) j b=mgP g x (t+1) j b:=by grind[amc,LU]
def aq0{j b:Nat}:mgP g x g.d.length j b=gM g.e.length (bH g) x j b:=by unfold mgP gM;rw[<-zL,cj];congr 1;refine aP λc _=>?_;unfold RF;have e:gs (bH g) x b (b,c)=NR g x b c:=ab rfl;rw[e]
def amd(t i:Nat):(λ_:Nat=>(0:Rat))=Vd g x t i 0:=by rfl
theorem LV(g:dV)(t:Nat):(dL g t).length=(ix g.d t).l.length:=cg _
theorem ame{t k:Nat}(hk:k<(ix g.d t).l.length):ix (dL g t) k=BP (ix (ix g.d t).l k):=aap BP hk
def XO(f:fZ->Rat){t m:Nat}(hm:m<=(ix g.d t).l.length):aF m (λk=>f (BP (ix (ix g.d t).l k)))=aK ((dL g t).take m) f:=by grind[Rw,LV,aP,ame]
def amf{t i k j:Nat}(hk:k<(ix g.d t).l.length):Vd g x t i (k+1) j=Vd g x t i k j+if(BP (ix (ix g.d t).l k)).1=j then TU (dW g t) (Ve g x t) (JZ g x t i) k else 0:=by unfold Vd;rw[bJ (by grind[LV]),ame hk];have h:=Vb (W:=dW g t) (q:=gq (bH g) x) (r:=gs (bH g) x i) (a:=BP (ix (ix g.d t).l k)) j (t:=(dL g t).take k) (Q:=0) (R:=0);rw[adp,gk,gk]at h;rw[h];unfold TU;have e1:∀m,m<=(ix g.d t).l.length->aF m (Ve g x t)=aK ((dL g t).take m) (gq (bH g) x):=λm hm=>XO (gq (bH g) x) hm;have e2:∀m,m<=(ix g.d t).l.length->aF m (JZ g x t i)=aK ((dL g t).take m) (gs (bH g) x i):=λm hm=>XO (gs (bH g) x i) hm;rw[aF,aF,e1 k jb,e2 k jb];rfl
def aq1{t i k e c:Nat}(hk:k<(ix g.d t).l.length)(He:ix (ix g.d t).l k=⟨.ofNat e,.ofNat c⟩):uI (rC (LU g x t i (Vd g x t i k))) e i (bY (LU g x t i (Vd g x t i k) e i+TU (dW g t) (Ve g x t) (JZ g x t i) k))=rC (LU g x t i (Vd g x t i (k+1))):=by funext j b;have h:=amf (x:=x) (i:=i) (j:=j) hk;rw[He]at h;have h:Vd g x t i (k+1) j=Vd g x t i k j+if e=j then TU (dW g t) (Ve g x t) (JZ g x t i) k else 0:=h;grind[uI,rC,LU]
theorem afo{t i:Nat}(j:Nat):dM (bH g) x j i (dW g t,dL g t)=(if TJ (bH g) (dW g t,dL g t)=(j:Int)then aF (ix g.d t).l.length (JZ g x t i)-aF (ix g.d t).l.length (TU (dW g t) (Ve g x t) (JZ g x t i))else 0)+Vd g x t i (ix g.d t).l.length j:=by unfold dM Vd;have e1:aF (ix g.d t).l.length (Ve g x t)=aK ((dL g t).take (ix g.d t).l.length) (gq (bH g) x):=XO (gq (bH g) x) jp;have e2:aF (ix g.d t).l.length (JZ g x t i)=aK ((dL g t).take (ix g.d t).l.length) (gs (bH g) x i):=XO (gs (bH g) x i) jp;grind[OO,LV]
def aq2{t i hh:Nat}(hd:TJ (bH g) (dW g t,dL g t)=(hh:Int)):uI (rC (LU g x t i (Vd g x t i (ix g.d t).l.length))) hh i (bY (LU g x t i (Vd g x t i (ix g.d t).l.length) hh i+(aF (ix g.d t).l.length (JZ g x t i)-aF (ix g.d t).l.length (TU (dW g t) (Ve g x t) (JZ g x t i)))))=rC (LU g x t i λj=>dM (bH g) x j i (dW g t,dL g t)):=by grind[uI,rC,LU,afo]
def aaA{t i:Nat}(hd:TJ (bH g) (dW g t,dL g t)=-1):LU g x t i (Vd g x t i (ix g.d t).l.length)=LU g x t i λj=>dM (bH g) x j i (dW g t,dL g t):=by
 have e:Vd g x t i (ix g.d t).l.length=λj=>dM (bH g) x j i (dW g t,dL g t):=by grind[afo]
 rw[e]
end
structure XP(D:Nat)(g:dV)(x:Nat->Rat):Prop where
 A:az4 D g x
 r:∀i,i<g.e.length->ROk D (bZ (ix g.e i)) (x i)
 s:∀i,i<g.e.length->∀c,c<kE g.e i->0<=NR g x i c/\Zk D 1 (NR g x i c)
def XQ{D:Nat}{W:Rat}{q r:fZ->Rat}{j:Nat}:∀(t:List fZ){Q R B:Rat}{K M:Nat},(∀a∈t,Zk D 1 (r a))->Zk D K R->Zk D K B->K+t.length<=M->Zk D (t.length*(2*M)) (jH W q r Q R B t j)
 |[],_,_,_,_,_,_,_,_,_=>Zk.zero.mono (aR _)
 |a::t,Q,R,B,K,M,hr,hR,hB,hM=>by
  rw[bA]at hM⊢;have ho:Zk D (K+1) (qg W (Q+q a) (R+r a)):=by
   unfold qg;split
   .exact hR.add (hr a kc)
   .exact Zk.zero.mono (aR _)
  have h1:=XQ (W:=W) (q:=q) (j:=j) (Q:=Q+q a) t (λb hb=>hr b (by simp[hb])) (hR.add (hr a kc)) ho (by omega:K+1+t.length<=M);rw[cf,dC];unfold jH;refine Zk.add ?_ h1;split
  .exact(ho.sub hB).mono jb
  .exact Zk.zero.mono (aR _)
section
variable {D:Nat} {g:dV} {x:Nat→Rat}
theorem XP.gs(h:XP D g x){t:Nat}(ht:t<g.d.length)(i:Nat):∀a∈dL g t,Zk D 1 (gs (bH g) x i a)/\0<=gs (bH g) x i a:=λa ha=>by
 obtain⟨y,hy,rfl⟩:=cP.mp ha;obtain⟨k,hk,rfl⟩:=aD hy;rw[<-dY hk];obtain⟨e,c,h1,h2,h3⟩:=(h.A.s.l t ht).2 k hk;rw[h1];unfold Ins.gs;obtain⟨h4,h5⟩:=h.s e h2 c h3;split
 .exact⟨h5,h4⟩
 .exact⟨Zk.zero.mono (aR _),aM⟩
def XP.own(h:XP D g x){j b c:Nat}(hb:b<g.e.length)(hc:c<kE g.e b):Zk D 1 (RF g x j b c):=by
 unfold RF;split
 .exact(h.s b hb c hc).2
 .exact Zk.zero.mono (aR _)
def XP.A'(h:XP D g x){i c j b:Nat}(hb:b<g.e.length)(hc:b=i->c<=kE g.e b):Zk D 1000 (TV g x i c j b):=by
 have hk:=h.A.s.k b hb;unfold TV;split
 .exact(Zk.Bf λc hc=>h.own hb hc).mono hk
 .split
  .next e=>
   subst e;exact(Zk.Bf λc' hc'=>h.own hb jb).mono jb
  .exact Zk.zero.mono (aR _)
theorem XP.dM(h:XP D g x){t:Nat}(ht:t<g.d.length)(j i:Nat):Zk D 2002000 (dM (bH g) x j i (dW g t,dL g t)):=by
 have hl:=(h.A.s.l t ht).1;have hlen:=LV g t;have hz:Zk D 1000 (aK (dL g t) (Ins.gs (bH g) x i)):=(Xu λa ha=>(h.gs ht i a ha).1).mono jb;have hr:=XQ (W:=dW g t) (q:=gq (bH g) x) (j:=j) (Q:=0) (K:=0) (M:=1000) (dL g t) (λa ha=>(h.gs ht i a ha).1) Zk.zero Zk.zero jb;unfold Ins.dM;refine Zk.mono (Zk.add (k:=2000) (l:=2000000) ?_ (hr.mono ?_)) jb
 .split
  .refine(hz.sub (l:=1000) ?_).mono jb;unfold qg;split
   .exact hz
   .exact Zk.zero.mono (aR _)
  .exact Zk.zero.mono (aR _)
 omega
def XP.U(h:XP D g x){t:Nat}(ht:t<g.d.length)(i k j:Nat):Zk D 2002000 (Vd g x t i k j):=by have hl:=(h.A.s.l t ht).1;have hlen:=LV g t;have hr:=XQ (W:=dW g t) (q:=gq (bH g) x) (j:=j) (Q:=0) (K:=0) (M:=1000) ((dL g t).take k) (λa ha=>(h.gs ht i a (eg ha)).1) Zk.zero Zk.zero kd;refine hr.mono ?_;grind
def XP.P(h:XP D g x){t j b:Nat}(ht:t<=g.d.length)(hb:b<g.e.length):Zk D 2002001000 (mgP g x t j b):=by
 have hk:=h.A.s.k b hb;have hd:=h.A.s.d;have h1:Zk D 1000 (aF (kE g.e b) (RF g x j b)):=(Zk.Bf λc hc=>h.own hb hc).mono hk;have h2:∀t,t<=g.d.length->Zk D (t*2002000) (aK ((bH g).ds.take t) (Ins.dM (bH g) x j b)):=λt=>by
  induction t with
  |zero=>intro _;exact Zk.zero.mono (aR _)
  |succ t ih=>
   intro ht
   rw[bJ (by grind[zL]),ou,Ru ht,cf]
   exact(ih jb).add (h.dM ht j b)
 exact(h1.add (h2 t ht)).mono jb
def XP.D'(h:XP D g x){t i j b:Nat}{u:Nat->Rat}(ht:t<g.d.length)(hb:b<g.e.length)(hu:Zk D 2002000 (u j)):Zk D 2004003000 (LU g x t i u j b):=by
 unfold LU;refine Zk.mono (Zk.add (l:=2002000) (h.P (ip ht) hb) ?_) jb;split
 .exact h.dM ht j b
 .split
  .exact hu
  .exact Zk.zero.mono (aR _)
end
def ahQ{n:Nat}{tk:Int->Bool}{x:yQ}(h:acy n tk x=0):(x.k=Int.negSucc 0/\x.b=true\/∃c:Nat,c<n/\x.k=Int.ofNat c/\tk x.k=false)/\(x.b=true->¬sg x.a.q<0):=by
 unfold acy at h;split at h
 .cases h
 .split at h
  .cases h
  .split at h
   .cases h
   .split at h
    .cases h
    .next h1 h2 h3 h4=>
     refine⟨?_,λhb hs=>h3 ⟨hb,hs⟩⟩;by_cases e:x.k=-1
     .refine .inl ⟨e,?_⟩;cases hb:x.b with
      |true=>rfl
      |false=>exact absurd ⟨e,hb⟩ h2
     .obtain⟨c,hc⟩:=ck (show 0<=x.k by omega);refine .inr ⟨c,jb,hc,?_⟩;cases ht:tk x.k with
      |false=>rfl
      |true=>exact absurd ⟨e,ht⟩ h4
def ahR{n:Nat}{tk:Int->Bool}{a:fD}(h:Zp n tk a=0):(a.length<=24/\∀i,i<a.length->(ix a i).length<=24)/\∀k,k<a.flatten.length->acy n tk (ix a.flatten k)=0:=by
 unfold Zp at h;split at h
 .cases h
 .next h1=>
  refine⟨EG.mp (by simpa using h1),λk hk=>?_⟩;obtain⟨t,ht,hx⟩:=List.mem_flatten.mp (l7 hk);obtain⟨i,hi,rfl⟩:=aD ht;obtain⟨j,hj,e⟩:=aD hx;have:=gI (gI h i hi) j (by rw[dY hi];exact hj);rw[dY hi,dY hj,e]at this;exact this
def ahS{J:St}(hW:WF J){p:Nat->Prop}{v:B}{n:Nat}{T:Nat->B}(hv:aZ p J.h 1 v n λi=>[T i])(hT:∀i,i<n->∃k:Nat,lenV (.c (T i))=some (jN k)/\k<=24)(hn:n<=1000):
  aB EN 295 [.c v,.fn 256 []] J λr J'=>r=.c (.int .i64 (.negSucc 0))/\Fr J J':=by
 refine aI (dR.o _ _) dR.h ?_
 unfold dR
 dsimp only
 have hlen:=aZ.len hv
 have hc:=λ(args:List V) (J:St) (K:V->St->Prop)=>lU (E:=EN) (K:=K) (jw.o args J) jw.h
 unfold jw at hc
 dsimp only at hc
 simp(disch:=try exact jz)only[go_sem,hlen]
 refine aG (λq tm J'=>∃j,q=n-j/\j<=n/\r8 tm 0=.c v/\r8 tm 1=.fn 256 []/\r8 tm 7=jN n/\r8 tm 8=jN j/\Fr J J') n ?_ ?_
 .refine⟨0,jb,jb,?_⟩
  refine WP ?_
  exact Fr.refl hW
 .rintro q tm J' ⟨j,rfl,hj,t0,t1,t7,t8,hf⟩
  refine W3 ?_
  refine aH (λhlt=>?_) (λhlt=>?_)
  .obtain⟨b,o,c,rfl,hld⟩:=HL.one (aZ.hl hv) jb
   have hld:=hf.ld hW (hld j hlt)
   obtain⟨k,hk,hk2⟩:=hT j hlt
   have hd:decide ((Int.ofNat 24:Int)<Int.ofNat k)=false:=ap (by show¬((24:Int)<(k:Int));omega)
   simp(disch:=try exact jz)only[go_sem,W4,hld,hc,hk,hd]
   exact⟨n-(j+1),jb,j+1,rfl,jb,rfl,hf⟩
  .have:j=n:=jb
   subst this
   simp(disch:=try exact jz)only[go_sem,t0]
   exact hf
def amh{E:Env}[acC E]{J:St}(hW:WF J){p:Nat->Prop}{v:B}{a:fD}(ha:dQ p J.h v a)(h1:a.length<=1000000)(h2:a.flatten.length<=1000000):
  aB E 257 [.c v] J λr J'=>(∃u,r=.c u/\xw (Lt J'.aj) J'.h u a.flatten)/\Fr J J':=by
 by_cases h0:a.flatten.length=0
 .rw[aar ha h1 h2 (v':=.c .aQ) (J':=J) (ab h0)]
  exact⟨⟨_,rfl,.inl ⟨h0,rfl⟩⟩,Fr.refl hW⟩
 .rw[aar ha h1 h2 (ae h0)]
  exact⟨⟨_,rfl,bK _ (aA _ _ _) (DI _ _ jj) (bL _) (λ_=>rfl) jj λ_ _=>rfl⟩,fr⟩
def az5{J:St}(hW:WF J){p:Nat->Prop}{v tv:B}{a:fD}{nc:Nat}{tk:Int->Bool}(ha:dQ p J.h v a)(ht:HL J.h 1 tv nc λi=>[.bool (tk (Int.ofNat i))])(hn:nc<=1000)(hz:Zp nc tk a=0)(hnf:a.flatten.length<=1000000)(hfp:∀k,k<a.flatten.length->(ix a.flatten k).a.fits 1000000):
  aB EN 167 [.agg [v],.c tv] J λr J'=>r=jN 0/\Fr J J':=by
 refine aI (jK.o _ _) jK.h ?_
 unfold jK
 dsimp only
 obtain⟨⟨hl,hlt⟩,hc0⟩:=ahR hz
 have ha':=ha
 obtain⟨T,hT,hP⟩:=ha'
 have hvk:=hT.kn
 have hvl:=aZ.len hT
 have htk:=ht.kn
 have htl:=ht.len
 have hFr:=Fr.refl hW
 have hd:decide ((Int.ofNat 24:Int)<Int.ofNat a.length)=false:=ap (by show¬((24:Int)<(a.length:Int));omega)
 have hcf:=λ(args:List V) (J:St) (K:V->St->Prop)=>lU (E:=EN) (K:=K) (dJ.o args J) dJ.h
 unfold dJ at hcf
 dsimp only at hcf
 simp(disch:=try exact jz)only[go_sem,hvk,hvl,htk,hd,hcf]
 refine aB.st (Fr J) (fr) λhF=>?_
 refine(ahS hF.wf (aZ.fr hW hF hT) (λi hi=>⟨_,aZ.len (hP i hi),hlt i hi⟩) jb).mono ?_
 rintro _ σ2 ⟨rfl,hf2⟩
 have hF2:=hF.trans hf2
 have q2:=hf2.get hF.wf (aA _ _ _)
 simp(disch:=try exact jz)only[go_sem,show(Int.ofNat 0<=Int.negSucc 0)=False from propext ⟨λh=>absurd h jj,False.elim⟩,ay q2,hvk]
 refine(amh hf2.wf (ha.fr hW hF2) jb hnf).mono ?_
 rintro _ σ3 ⟨⟨u,rfl,hu⟩,hf3⟩
 have hF3:=hF2.trans hf3
 have hul:=aZ.len hu
 have huk:=aZ.kn hu
 generalize a.flatten=l at*
 simp(disch:=try exact jz)only[go_sem,hul,huk]
 refine aG (λq tm J'=>∃j,q=l.length-j/\j<=l.length/\r8 tm 1=.c tv/\r8 tm 19=.c u/\r8 tm 20=jN l.length/\r8 tm 21=jN j/\Fr σ3 J') l.length ?_ ?_
 .refine⟨0,jb,jb,?_⟩
  refine WP ?_
  exact Fr.refl hf3.wf
 .rintro q tm J' ⟨j,rfl,hj,t1,t19,t20,t21,hf⟩
  refine W3 ?_
  refine aH (λhlt=>?_) (λhlt=>?_)
  .obtain⟨b,o,c,rfl,-,hld⟩:=aZ.pos hu jb
   have hld:=hf.ld hf3.wf (hld j hlt)
   unfold AU at hld
   obtain⟨h1,h2⟩:=ahQ (hc0 j hlt)
   have hfit:=rF (hfp j hlt) jj
   have hraw:rq (ix l j).a.n (ix l j).a.s (ix l j).a.d=(ix l j).a.q:=rfl
   have hle:=hf.le
   have lM:=Fr.refl hf.wf
   rcases h1 with⟨e1,e2⟩|⟨k,hk,e1,e2⟩
   .rw[e1,e2]at hld
    have hsg:decide (sg (ix l j).a.q<Int.ofNat 0)=false:=ap (h2 e2)
    simp(disch:=try exact jz)only[go_sem,W4,hld,hsg,hraw]
    exact⟨l.length-(j+1),jb,j+1,rfl,jb,rfl,fr⟩
   .rw[e1]at hld e2
    obtain⟨b2,o2,c2,rfl,uY⟩:=HL.one ht jb
    have uY:=(hF3.trans hf).ld hW (uY k hk)
    have hb2:=hf.wf.cZ uY
    rw[e2]at uY
    have d1:decide (Int.ofNat k=Int.negSucc 0)=false:=rfl
    have d2:decide (Int.ofNat k<Int.ofNat 0)=false:=ap (by show¬((k:Int)<0);omega)
    have d3:decide (Int.ofNat nc<=Int.ofNat k)=false:=ap (by show¬((nc:Int)<=(k:Int));omega)
    cases hb:(ix l j).b with
    |true=>
     rw[hb]at hld
     have hsg:decide (sg (ix l j).a.q<Int.ofNat 0)=false:=ap (h2 hb)
     simp(disch:=try exact jz)only[go_sem,W4,hld,hsg,hraw,d1,d2,d3,htl,uY]
     exact⟨l.length-(j+1),jb,j+1,rfl,jb,rfl,fr⟩
    |false=>
     rw[hb]at hld
     simp(disch:=try exact jz)only[go_sem,W4,hld,d1,d2,d3,htl,uY]
     exact⟨l.length-(j+1),jb,j+1,rfl,jb,rfl,fr⟩
  .refine WP ?_
   exact hF3.trans hf
def ahT{x:C5}(h:WO x=0): -1<=x.h/\x.h<8/\0<=x.r/\x.r<=7/\¬sg x.a.q<0:=by
 unfold WO at h;split at h
 .cases h
 .split at h
  .cases h
  .split at h
   .cases h
   .omega
def ahU{e:yg}(h:EF e=0):e.c.length<=24/\e.a.length<=12/\¬sg e.m.q<0/\(∀i,i<e.c.length->WO (ix e.c i)=0)/\∀k,k<e.a.length->Zp e.c.length (BH e.a k) (ix e.a k)=0:=by
 unfold EF at h;split at h
 .cases h
 .split at h
  .cases h
  .split at h
   .next h3=>exact absurd h h3
   .next h1 h2 h3=>exact⟨jb,jb,h2,gI (by simpa using h3),gI h⟩
def tkS(f:Int->Bool)(L:List Int)(l k:Nat):Bool:=f (Int.ofNat k)||(L.take l).contains (Int.ofNat k)
def aq3{n l c:Nat}{f:Int->Bool}{L:List Int}(hl:l<L.length)(hc:ix L l=Int.ofNat c):ones n (aO (λk=>B.bool (tkS f L l k)) c (.bool true))=ones n λk=>.bool (tkS f L (l+1) k):=dF λk _=>by
 unfold aO tkS;rw[bJ hl,hc,List.contains_append];by_cases e:k=c
 .subst e;rw[ab rfl];simp
 .rw[ae e];have:([Int.ofNat c].contains (Int.ofNat k))=false:=by simp;omega
  rw[this];simp
def aq4{l:List fD}{j:Nat}(hj:j<l.length)(k:Nat):tkS (BH l j) (yC (ix l j)) (yC (ix l j)).length k=BH l (j+1) (Int.ofNat k):=by unfold tkS;rw[cj,ag7 hj];congr 1;rw[gA,List.contains_iff_mem,tH];exact⟨λh=>h.2,λh=>⟨by show(k:Int)≠-1;omega,h⟩⟩
def az6{J:St}(hW:WF J){p:Nat->Prop}{e:yg}{C A:B}(hc:lT p J.h C e.c)(ha:iO p J.h A e.a)(hz:EF e=0)(hm:e.m.fits 1000000)(hfc:∀k,k<e.c.length->(ix e.c k).a.fits 1000000)
  (hA:∀j,j<e.a.length->(ix e.a j).length<=1000/\(ix e.a j).flatten.length<=1000000/\(∀k,k<(ix e.a j).flatten.length->(ix (ix e.a j).flatten k).a.fits 1000000)/\∀t∈ix e.a j,∀x∈t,x.k=-1\/0<=x.k/\x.k<e.c.length):
  aB EN 77 [.agg [.bool e.m.n,.str e.m.s,.str e.m.d,C,A]] J λr J'=>r=jN 0/\Fr J J':=by
 refine aI (tK.o _ _) tK.h ?_
 unfold tK
 dsimp only
 obtain⟨h1,h2,h3,h4,h5⟩:=ahU hz
 have hck:=aZ.kn hc
 have hcl:=aZ.len hc
 have hak:=ha.kn
 have hal:=ha.choose_spec.1.len
 have hFr:=Fr.refl hW
 have hfit:=rF hm jj
 have hraw:rq e.m.n e.m.s e.m.d=e.m.q:=rfl
 have hsg:decide (sg e.m.q<Int.ofNat 0)=false:=ap h3
 have d1:decide ((Int.ofNat 24:Int)<Int.ofNat e.c.length)=false:=ap (by show¬((24:Int)<(e.c.length:Int));omega)
 have d2:decide ((Int.ofNat 12:Int)<Int.ofNat e.a.length)=false:=ap (by show¬((12:Int)<(e.a.length:Int));omega)
 simp(disch:=try exact jz)only[go_sem,hck,hcl,hak,hal,hsg,hraw,d1,d2]
 refine bI.mono (Q:=λex tm J'=>ex=.exit 1/\r8 tm 1=.c (.ptr J.aj 0)/\J'.h J.aj=some ⟨[.bool e.m.n,.str e.m.s,.str e.m.d,C,A],none⟩/\Fr J J'/\J.aj+1<=J'.aj)
  (aG (λq tm J'=>∃i,q=e.c.length-i/\i<=e.c.length/\r8 tm 1=.c (.ptr J.aj 0)/\r8 tm 28=.c C/\r8 tm 29=jN e.c.length/\r8 tm 30=jN i/\J'.h J.aj=some ⟨[.bool e.m.n,.str e.m.s,.str e.m.d,C,A],none⟩/\Fr J J'/\J.aj+1<=J'.aj) e.c.length ?_ ?_) ?_
 .refine⟨0,jb,jb,?_⟩
  refine WP ?_
  exact⟨fr,jp⟩
 .rintro q tm J' ⟨i,rfl,hi,t1,t28,t29,t30,q1,hf,hnx⟩
  refine W3 ?_
  refine aH (λhlt=>?_) (λhlt=>?_)
  .obtain⟨b,o,c,rfl,-,hld⟩:=aZ.pos hc jb
   have hld:=hf.ld hW (hld i hlt)
   unfold Ym at hld
   obtain⟨g1,g2,g3,g4,g5⟩:=ahT (h4 i hlt)
   have hfit:=rF (hfc i hlt) jj
   have hraw:rq (ix e.c i).a.n (ix e.c i).a.s (ix e.c i).a.d=(ix e.c i).a.q:=rfl
   have hsg:decide (sg (ix e.c i).a.q<Int.ofNat 0)=false:=ap g5
   have e1:decide ((ix e.c i).h<Int.negSucc 0)=false:=ap (by show¬(ix e.c i).h< -1;omega)
   have e2:decide (Int.ofNat 8<=(ix e.c i).h)=false:=ap (by show¬8<=(ix e.c i).h;omega)
   have e3:decide ((ix e.c i).r<Int.ofNat 0)=false:=ap (by show¬(ix e.c i).r<0;omega)
   have e4:decide (Int.ofNat 7<(ix e.c i).r)=false:=ap (by show¬7<(ix e.c i).r;omega)
   have hle:=hf.le
   have lM:=Fr.refl hf.wf
   have hl1:=hf.wf.lt q1
   simp(disch:=try exact jz)only[go_sem,W4,hld,hsg,hraw,e1,e2,e3,e4,q1]
   exact⟨e.c.length-(i+1),jb,i+1,rfl,jb,rfl,fr,jb⟩
  .simp(disch:=try exact jz)only[go_sem,am]
   exact⟨t1,q1,hf,hnx⟩
 .rintro _ KQ σ1 ⟨rfl,t1,q1,hf1,hn1⟩
  have hle1:=hf1.le
  have ac9:=Fr.refl hf1.wf
  have hl1:=hf1.wf.lt q1
  simp(disch:=try exact jz)only[go_sem,t1,ay q1,q1,hck,hcl,hak,hal]
  refine aG (λq tm J'=>∃j,q=e.a.length-j/\j<=e.a.length/\r8 tm 5=.c (.sl σ1.aj 0 e.c.length (.ex e.c.length))/\r8 tm 63=.c A/\r8 tm 64=jN e.a.length/\r8 tm 65=jN j
   /\J'.h σ1.aj=some ⟨ones e.c.length λk=>.bool (BH e.a j (Int.ofNat k)),none⟩/\Fr J J'/\σ1.aj+1<=J'.aj) e.a.length ?_ ?_
  .refine⟨0,jb,jb,?_⟩
   refine WP ?_
   exact⟨rfl,fr,jp⟩
  .rintro q tm J' ⟨j,rfl,hj,t5,t63,t64,t65,q5,hf,hnx⟩
   refine W3 ?_
   refine aH (λhlt=>?_) (λhlt=>?_)
   .obtain⟨b,o,c,rfl,T,hld,hT⟩:=ha.at hlt
    have hld:=hf.ld hW hld
    obtain⟨a1,a2,a3,a4⟩:=hA j hlt
    have Ll:=hT.kn
    have hle:=hf.le
    have lM:=Fr.refl hf.wf
    simp(disch:=try exact jz)only[go_sem,W4,hld,Ll]
    refine aB.st (Fr J') (fr) λhF=>?_
    have q5F:=hF.get hf.wf q5
    have hTF:=hT.fr hW (hf.trans hF)
    refine(az5 hF.wf hTF (aZ.hl (p:=λ_=>True) (bK (G:=λk=>[.bool (BH e.a j (Int.ofNat k))]) (.ex e.c.length) q5F rfl trivial (λ_=>rfl) jj λ_ _=>rfl)) jb (h5 j hlt) a2 a3).mono ?_
    rintro _ σ2 ⟨rfl,hf2⟩
    have hF2:=hF.trans hf2
    have q7:=hf2.get hF.wf (aA _ _ _)
    have d0:decide ((0:Int)=Int.ofNat 0)=true:=rfl
    simp(disch:=try exact jz)only[go_sem,ay q7,Ll,t5,d0]
    refine(U8 hf2.wf (hT.fr hW (hf.trans hF2)) jb a2).mono ?_
    rintro _ σ3 ⟨⟨u,rfl,hu⟩,hf3⟩
    have hF3:=hF2.trans hf3
    have hul:=hu.len
    have huk:=hu.kn
    have q53:=hF3.get hf.wf q5
    have hle3:=hF3.le
    have hle2:=hF2.le
    have hm9:=wI a4
    have hall:=aq4 hlt
    have hu2:=hu.hlp (p:=λb=>σ2.aj<=b) (λ_=>rfl) jj (λ_ _=>rfl) λb h1 _=>h1
    have aDV:(yC (ix e.a j)).length<=1000000000:=by rw[<-Q9];exact ar (Iy a4) jb
    generalize yC (ix e.a j)=L at*
    have hz0:ones e.c.length (λk=>B.bool (BH e.a j (Int.ofNat k)))=ones e.c.length λk=>.bool (tkS (BH e.a j) L 0 k):=dF λk _=>by unfold tkS;rw[cA];simp
    rw[hz0]at q53
    have DY:=hf.trans hF3
    simp(disch:=try exact jz)only[go_sem,hul,huk]
    refine bI.mono (Q:=λex tm σ4=>ex=.exit 6/\r8 tm 5=.c (.sl σ1.aj 0 e.c.length (.ex e.c.length))/\r8 tm 63=.c (.sl b o e.a.length c)/\r8 tm 64=jN e.a.length/\r8 tm 65=jN j
     /\σ4.h σ1.aj=some ⟨ones e.c.length λk=>.bool (tkS (BH e.a j) L L.length k),none⟩/\Fr J σ4/\σ3.aj<=σ4.aj)
     (aG (λq tm σ4=>∃l,q=L.length-l/\l<=L.length/\r8 tm 5=.c (.sl σ1.aj 0 e.c.length (.ex e.c.length))/\r8 tm 63=.c (.sl b o e.a.length c)/\r8 tm 64=jN e.a.length/\r8 tm 65=jN j/\r8 tm 76=.c u/\r8 tm 77=jN L.length/\r8 tm 78=jN l
     /\σ4.h σ1.aj=some ⟨ones e.c.length λk=>.bool (tkS (BH e.a j) L l k),none⟩/\Fr J σ4/\gY [σ1.aj] σ3 σ4) L.length ?_ ?_) ?_
    .refine⟨0,jb,jb,?_⟩
     refine W1 ?_
     exact⟨q53,DY,(Fr.refl hf3.wf).ex _⟩
    .rintro q tm σ4 ⟨l,rfl,hl,t5,t63,t64,t65,t76,t77,t78,q54,hf4,hfe⟩
     refine W3 ?_
     refine aH (λJI=>?_) (λJI=>?_)
     .obtain⟨b7,o7,c7,rfl,hp7,dB⟩:=aZ.pos hu2 jb
      have hp7:σ2.aj<=b7:=hp7
      have dB:=hfe.ld hf3.wf (by simp;omega) (dB l JI)
      have dB:=(rW dB).1
      obtain⟨m1,m2⟩:=hm9 _ (l7 JI)
      obtain⟨cc,hcc⟩:=ck m1
      have hst:=aq3 (n:=e.c.length) (f:=BH e.a j) JI hcc
      have aCr:ix L l=Int.ofNat cc:=hcc
      have hcn:cc<e.c.length:=jb
      have aDW:=hf4.wf.lt q54
      have qM:=hfe.le
      have ET:=Fr.refl hf4.wf
      rw[aCr]at dB
      simp(disch:=try exact jz)only[go_sem,W4,dB,q54,aJ q54,hst]
      exact⟨L.length-(l+1),jb,l+1,rfl,jb,rfl,rfl,fr,fe⟩
     .have:l=L.length:=jb
      subst this
      simp(disch:=try exact jz)only[go_sem,am]
      exact⟨t5,t63,t64,t65,q54,hf4,hfe.le⟩
    .rintro _ tm4 σ4 ⟨rfl,t5,t63,t64,t65,q54,hf4,hn4⟩
     refine W0 ?_
     refine⟨e.a.length-(j+1),jb,j+1,rfl,jb,rfl,?_,hf4,jb⟩
     rw[q54]
     exact br (λl=>some (Bk.mk l none)) (dF λk _=>br B.bool (hall k))
   .refine WP ?_
    exact hf
def Vf{g:dV}{d k:Nat}(h:Zq g d k=0):∃a b:Nat,ix (ix g.d d).l k=⟨.ofNat a,.ofNat b⟩/\a<g.e.length/\b<(ix g.e a).c.length/\EH (iy g.d d k) ⟨.ofNat a,.ofNat b⟩=false/\holdL g.e ⟨.ofNat a,.ofNat b⟩=holdL g.e (ix (ix g.d d).l 0):=by
 unfold Zq at h;dsimp only at h;split at h
 .cases h
 .next h1=>
  split at h
  .cases h
  .next h2=>
   split at h
   .cases h
   .next h3=>
    generalize ix (ix g.d d).l k=x at*;obtain⟨xe,xk⟩:=x;dsimp only at h1;obtain⟨a,rfl⟩:=ck (show 0<=xe by omega);obtain⟨b,rfl⟩:=ck (show 0<=xk by omega);rw[gb]at h1;exact⟨a,b,rfl,jb,jb,by simpa using h2,by simpa using h3⟩
def adq{l:List oM}{d k:Nat}(hk:k<(ix l d).l.length):iy l d (k+1)=iy l d k++[ix (ix l d).l k]:=by unfold iy;rw[bJ hk,gd]
def RH{l:List oM}{d:Nat}(hd:d<l.length):iy l d (ix l d).l.length=iy l (d+1) 0:=by unfold iy;rw[cj,cA,dc,bJ hd,cH];simp
def Vg{J:St}(hW:WF J){p:Nat->Prop}{ev dv:B}{g:dV}(hg:jY p J.h ev dv g){a b:Nat}(ha:a<g.e.length)(hb:b<(ix g.e a).c.length)(hn:g.e.length<=1000)(hc:(ix g.e a).c.length<=1000):
  aB EN 169 [.agg [ev,dv],.agg [.int .i64 (.ofNat a),.int .i64 (.ofNat b)]] J λr J'=>r=.c (.int .i64 (holdL g.e ⟨.ofNat a,.ofNat b⟩))/\Fr J J':=by
 refine aI (rP.o _ _) rP.h ?_
 unfold rP
 dsimp only
 have hdk:=hg.d.kn
 obtain⟨b5,o5,c5,rfl,C1,A1,bD,-,hC,hA1⟩:=hg.e.at ha
 obtain⟨b8,o8,c8,rfl,-,qh⟩:=aZ.pos hC jb
 have qh:=qh b hb
 unfold Ym at qh
 have l3:=rM bD 3 1 false jj jj
 have l4:=Gi qh 1 false jj jj
 have m2:=hW.cZ l3
 have m3:=hW.cZ l4
 have hFr:=Fr.refl hW
 simp(disch:=try exact jz)only[go_sem,hdk,l3,l4]
 exact⟨rfl,fr⟩
def awz{J:St}(hW:WF J){p p':Nat->Prop}{ev dv:B}{g:dV}(hg:jY p J.h ev dv g){d mb:Nat}(hp:∀b,p b->b<mb)(hp':∀b,p' b->b<mb){Lv:B}(hL:yh p' J.h Lv (ix g.d d).l)(hm:J.h mb=some ⟨MW (iy g.d d 0),some (0,0)⟩)(hz:NC g d=0)(hw:(ix g.d d).w.fits 1000000)(hn:g.e.length<=1000)(hc:∀i,i<g.e.length->(ix g.e i).c.length<=1000)(hl5:∀k,k<=(ix g.d d).l.length->(iy g.d d k).length<=500):
  aB EN 78 [.agg [ev,dv],.agg [.bool (ix g.d d).w.n,.str (ix g.d d).w.s,.str (ix g.d d).w.d,Lv],.c (.mp mb)] J λr J'=>r=jN 0/\J'.h mb=some ⟨MW (iy g.d d (ix g.d d).l.length),some (0,0)⟩/\gY [mb] J J':=by
 refine aI (oD.o _ _) oD.h ?_
 unfold oD
 dsimp only
 unfold NC at hz
 split at hz
 .cases hz
 .next h1=>
  split at hz
  .cases hz
  .next h2=>
   have h3:=gI hz
   have hek:=hg.e.kn
   have hdk:=hg.d.kn
   have hLk:=aZ.kn hL
   have hLl:=aZ.len hL
   have hml:=hW.lt hm
   have hFr:=Fr.refl hW
   have hfit:=rF hw jj
   have hraw:rq (ix g.d d).w.n (ix g.d d).w.s (ix g.d d).w.d=(ix g.d d).w.q:=rfl
   have hsg:decide (sg (ix g.d d).w.q<Int.ofNat 0)=false:=ap h2
   have d1:decide ((Int.ofNat 8:Int)<Int.ofNat (ix g.d d).l.length)=false:=ap (by show¬((8:Int)<((ix g.d d).l.length:Int));omega)
   simp(disch:=try exact jz)only[go_sem,hek,hdk,hLk,hLl,hsg,hraw,d1]
   refine aG (λq tm J'=>∃k,q=(ix g.d d).l.length-k/\k<=(ix g.d d).l.length/\r8 tm 2=.c (.mp mb)/\r8 tm 3=.c (.ptr J.aj 0)/\r8 tm 4=.c (.ptr (J.aj+1) 0)/\r8 tm 20=.c Lv/\r8 tm 21=jN (ix g.d d).l.length/\r8 tm 22=jN k
    /\J'.h mb=some ⟨MW (iy g.d d k),some (0,0)⟩/\J'.h J.aj=some ⟨[ev,dv],none⟩/\J'.h (J.aj+1)=some ⟨[.bool (ix g.d d).w.n,.str (ix g.d d).w.s,.str (ix g.d d).w.d,Lv],none⟩/\gY [mb] J J'/\J.aj+1+1<=J'.aj) (ix g.d d).l.length ?_ ?_
   .refine⟨0,jb,jb,?_⟩
    refine WP ?_
    exact⟨hm,Fr.ex (fr) _,jp⟩
   .rintro q tm J' ⟨k,rfl,hk,t2,t3,t4,t20,t21,t22,qm,q3,q4,hf,hnx⟩
    refine W3 ?_
    refine aH (λhlt=>?_) (λhlt=>?_)
    .obtain⟨a,b,ex,ha,hb,hh,hho⟩:=Vf (h3 k hlt)
     obtain⟨a0,b0,ex0,ha0,hb0,-,-⟩:=Vf (h3 0 jb)
     have hko:∀b,b<mb->J'.h b=J.h b:=λb hb=>hf.old b jb (by simp;omega)
     have hg':jY (Lt mb) J'.h ev dv g:=hg.keep (λb hb=>hko b (hp b hb)) hp
     have hL':yh (Lt mb) J'.h Lv (ix g.d d).l:=aZ.keep hL (λb hb=>hko b (hp' b hb)) hp'
     obtain⟨b6,o6,c6,rfl,hb6,bV⟩:=aZ.pos hL' jb
     have aaB:=bV 0 jb
     have bV:=bV k hlt
     unfold Oh at bV aaB
     rw[ex]at bV
     rw[ex0]at aaB
     obtain⟨b5,o5,c5,rfl,C1,A1,bD,-,hC,-⟩:=hg'.e.at ha
     have hCl:=aZ.len hC
     obtain⟨b8,o8,c8,rfl,-,-⟩:=aZ.pos hC jb
     have l3:=rM bD 3 1 false jj jj
     have m2:=hf.wf.cZ l3
     have m6:=hf.wf.cZ bV
     have hnn:=hn
     have hca:=hc a ha
     have aCs:=hc a0 ha0
     have e1:decide (Int.ofNat a<Int.ofNat 0)=false:=ap (by show¬((a:Int)<0);omega)
     have e2:decide (Int.ofNat g.e.length<=Int.ofNat a)=false:=ap (by show¬((g.e.length:Int)<=(a:Int));omega)
     have e3:decide (Int.ofNat b<Int.ofNat 0)=false:=ap (by show¬((b:Int)<0);omega)
     have e4:decide (Int.ofNat (ix g.e a).c.length<=Int.ofNat b)=false:=ap (by show¬(((ix g.e a).c.length:Int)<=(b:Int));omega)
     have hle:=hf.le
     have lM:=Fr.refl hf.wf
     have hlm:=hf.wf.lt qm
     simp(disch:=try exact jz)only[go_sem,W4,bV,aaB,ay q3,ay q4,q3,q4,l3,hCl,e1,e2,e3,e4,qm,hh,hek,hdk]
     refine aB.st (Fr J') (fr) λhF=>?_
     refine(Vg hF.wf (hg'.fr hf.wf hF) ha hb hn hca).mono ?_
     rintro _ σ2 ⟨rfl,hf2⟩
     have hF2:=hF.trans hf2
     have q32:=hF2.get hf.wf q3
     have q42:=hF2.get hf.wf q4
     have q82:=hf2.get hF.wf (aA _ _ _)
     have uY:=hF2.ld hf.wf aaB
     have JB:=Fr.refl hf2.wf
     simp(disch:=try exact jz)only[go_sem,t2,t3,t4,ay q32,ay q42,ay q82,q32,q42,uY,hek,hdk]
     refine(Vg hf2.wf (hg'.fr hf.wf hF2) ha0 hb0 hn aCs).mono ?_
     rintro _ σ3 ⟨rfl,hf3⟩
     have hF3:=hF2.trans hf3
     have q33:=hF3.get hf.wf q3
     have q43:=hF3.get hf.wf q4
     have q83:=hf3.get hf2.wf q82
     have qm3:=hF3.get hf.wf qm
     have vP:=hF3.ld hf.wf aaB
     have hle3:=hF3.le
     rw[ex0]at hho
     have d5:decide (holdL g.e ⟨.ofNat a,.ofNat b⟩=holdL g.e ⟨.ofNat a0,.ofNat b0⟩)=true:=aw hho
     have aDX:=hl5 k hk
     have aDb:(ix g.d d).l.length<=8:=jb
     have hFE:gY [mb] J σ3:=hf.trans (hF3.ex _)
     have aDY:mb<σ3.aj:=jb
     simp(disch:=try exact jz)only[go_sem,W4,ay q33,ay q43,ay q83,q33,q43,q83,qm3,vP,d5]
     refine⟨(ix g.d d).l.length-(k+1),jb,k+1,rfl,jb,rfl,?_,fe,jb⟩
     rw[adq hlt,ex]
    .have:k=(ix g.d d).l.length:=jb
     subst this
     refine WP ?_
     exact⟨qm,hf⟩
end Go.Proofs.Xe
