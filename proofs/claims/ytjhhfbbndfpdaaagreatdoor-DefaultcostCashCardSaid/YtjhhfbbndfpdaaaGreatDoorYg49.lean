import Derived.Test.YtjhhfbbndfpdaaaGreatDoorYg48
set_option linter.all false
set_option maxRecDepth 100000
set_option maxHeartbeats 8000000
attribute [-go_sem] Go.Proofs.Xe.ayo Go.Proofs.Xe.ayp Go.Proofs.Xe.ayq
namespace Go.Proofs.Xe
open Go.RowKit Go.Proofs.Ins
def YU:amt 2=0:=by rfl
def DG.of{σ0 J:St}(hW:WF J){ev dv:B}{n eb:Nat}{m K:Nat->Rat}{cl:Nat->List C5}{bs:Nat->Nat}{A:Nat->B}{al:Nat->List fD}{dl:List pX}{lo hi:Nat}(ho:jE J.h dv n eb m cl bs A al dl lo hi)(hB:BG n m cl al dl)(hb:Built σ0 J ev dv (iW n m cl al dl))(hK:∀j,∃u,K j=amt u):DG n m K cl al dl:=by
 have hc:∀a:Nat->Bool,jX (iW n (oI m K a) cl al dl):=λa=>hB.AU.XW λi hi=>by
  obtain⟨v,hv⟩:=hB.mm i hi;obtain⟨u,hu⟩:=hK i;unfold oI;cases a i with
  |true=>rw[ab rfl,hv,hu];exact ah0 v u
  |false=>
   rw[hv]
   exact⟨(jD v).mono jj,(nR v).c60⟩
 refine⟨hB.n4,hB.AU,λ_=>hB.chg,hb.s,hb.l,hb.z,hc,λj=>?_,λj=>?_,λa=>amQ hW ho (hc a)⟩
 .obtain⟨u,hu⟩:=hK j;rw[hu];exact(jD u).mono jj
 .obtain⟨u,hu⟩:=hK j;rw[hu];exact(nR u).2.1
def am1{J:St}(hW:WF J){n:Nat}(hn:n<=1000000){f g:Nat->Bool}{a b:B}(h1:HL J.h 1 a n λc=>[.bool (f c)])(h2:HL J.h 1 b n λc=>[.bool (g c)]):
  aC EN 11 [.c a,.c b] J λr J'=>(∃d:Bool,r=.c (.bool d)/\(d=true↔Ik n f g))/\Fr J J':=by
 refine aN (BQ.o _ _) BQ.h ?_
 unfold BQ
 dsimp only
 have hla:=h1.len
 have hFr:=Fr.refl hW
 refine WX ?_
 refine aF (λx tm J'=>∃j,x=n-j/\j<=n/\r8 tm 0=.c a/\r8 tm 1=.c b/\r8 tm 5=jN j/\(∀i,i<j->f i=true->g i=true)/\Fr J J') n ?_ ?_
 .refine⟨0,jb,jb,?_⟩
  refine WN ?_
  exact⟨λi hi=>absurd hi jb,hFr⟩
 .rintro x tm J' ⟨j,rfl,hj,t0,t1,t5,he,hF⟩
  simp(disch:=try exact jz)only[go_sem,W3,hla,aA]
  refine aH (λhlt=>?_) (λhlt=>?_)
  .obtain⟨b5,o5,c5,e5,bC⟩:=h1.one jb
   obtain⟨b6,o6,c6,e6,bJ⟩:=h2.one jb
   have bC:=hF.ld hW (bC j hlt)
   have bJ:=hF.ld hW (bJ j hlt)
   have t0':=t0
   have t1':=t1
   rw[e5]at t0'
   rw[e6]at t1'
   cases hf:f j with
   |false=>
    rw[hf]at bC
    simp(disch:=try exact jz)only[go_sem,t0',t1',t5,bC,bJ]
    exact⟨n-(j+1),jb,j+1,rfl,jb,by rw[e5],by rw[e6],rfl,λi hi h=>(by rcases cM.mp hi with h'|rfl;exact he i h' h;rw[hf]at h;cases h),hF⟩
   |true=>
    rw[hf]at bC
    cases hg:g j with
    |true=>
     rw[hg]at bJ
     simp(disch:=try exact jz)only[go_sem,t0',t1',t5,bC,bJ]
     exact⟨n-(j+1),jb,j+1,rfl,jb,by rw[e5],by rw[e6],rfl,λi hi h=>by rcases cM.mp hi with h'|rfl;exact he i h' h;exact hg,hF⟩
    |false=>
     rw[hg]at bJ
     simp(disch:=try exact jz)only[go_sem,t0',t1',t5,bC,bJ]
     exact⟨⟨_,rfl,⟨λh=>(by cases h),λh=>by have:=h j hlt hf;rw[hg]at this;cases this⟩⟩,hF⟩
  .have:j=n:=jb
   subst this
   simp(disch:=try exact jz)only[go_sem,t0,t1]
   exact⟨⟨_,rfl,⟨λ_=>he,λ_=>rfl⟩⟩,hF⟩
section
variable {h h' : Tr Bk} {dv:B} {n eb:Nat} {m:Nat→Rat} {cl:Nat→List C5} {bs:Nat→Nat} {A:Nat→B} {al:Nat→List fD} {dl:List pX} {lo hi:Nat}
def aq3{i:Nat}{q:Rat}(hi:i<n):wI (aY n (nY m cl bs A)) (i*5) (rK q)=some (aY n (nY (aJ m i q) cl bs A)):=by
 have:=uS (e:=5) (k:=0) (vs:=(rK q)) (n:=n) (i:=i) (G:=nY m cl bs A) (λ_=>rfl) hi kc;rw[bO]at this;rw[this];show some (aY n _)=_;congr 1;refine bf λj _=>?_;unfold iC nY aJ;split
 .next e=>subst e;rfl
 .rfl
def jE.ldM(ho:jE h dv n eb m cl bs A al dl lo hi){i:Nat}(hi':i<n):ld h eb (i*5) 3 true=some (.agg (rK (m i))):=by have:=wL (ho.ldE hi') 0 3 true jj jj;rw[ck,bO]at this;rw[this];unfold nY yZ;rfl
def jE.au1(ho:jE h dv n eb m cl bs A al dl lo hi)(i:Nat)(q:Rat)(he:h' eb=some ⟨aY n (nY (aJ m i q) cl bs A),some (5,49)⟩)(hb:∀b,lo<=b->b<hi->b≠eb->h' b=h b):jE h' dv n eb (aJ m i q) cl bs A al dl lo hi:=by have hk:∀b,Qt lo hi eb n cl bs b->h' b=h b:=λb q=>hb b q.1 q.2.1 q.2.2.1;refine⟨he,ho.elo,ho.ehi,λj hj hp=>?_,ho.inj,λj hj=>(ho.a j hj).keep hk λ_ h=>h,ho.d.keep hk λ_ h=>h⟩;obtain⟨k1,k2,k3,k4⟩:=ho.c j hj hp;exact⟨by rw[hb _ k2 k3 k4];exact k1,k2,k3,k4⟩
end
def jB.aAx{p q:Rat}(h:jB 60 30 p)(h':jB 60 30 q):jB 60 100 (p+q):=⟨h.1.add h'.1,by have:=h.2.1;have:=h'.2.1;grind,by have:=h.2.2;have:=h'.2.2;grind⟩
def ah2(a b c d e f g i j:V)(l:List V):r8 (ini (a::b::c::d::e::f::g::i::j::l)) 8=j:=by simp_all [r8,xM]
attribute [go_sem] asY abN ah2
def ads{n:Nat}{m m':Nat->Rat}{cl:Nat->List C5}{al:Nat->List fD}{dl:List pX}{x:Nat->Rat}:LH (iW n m' cl al dl) x=LH (iW n m cl al dl) x:=by funext i c;unfold LH;rw[XY (m:=m)]
def adt{q:Rat}{u:Nat}(h1:Sm 100 q)(h2:jB 60 100 q):Sm 1000 (sH (q-amt u) 0)/\jB 60 100 (sH (q-amt u) 0):=by
 have h3:=nR u;unfold sH;split
 .next h=>
  have h0:0<=q-amt u:=by
   unfold mW at h;rcases nT (q-amt u-0)with⟨e,-⟩|⟨-,e⟩|⟨-,e⟩
   .omega
   .grind
   .grind
  have:=h2.2.2;have:=h3.2.1;exact⟨(h1.sub (jD u)).mono jj,h2.1.sub h3.1,h0,by grind⟩
 .exact⟨(Jz▸jD 0).mono jj,(RS jj).zero⟩
section
variable {n:Nat} {m0 m K:Nat→Rat} {cl:Nat→List C5} {al:Nat→List fD} {dl:List pX}
def DG.XW{J:St}(hW:WF J){dv:B}{eb lo hi:Nat}{bs:Nat->Nat}{A:Nat->B}(ho:jE J.h dv n eb m cl bs A al dl lo hi)(hB:BG n m0 cl al dl)(h:DG n m0 K cl al dl)(hm:∀i,i<n->Sm 100 (m i)/\jB 60 100 (m i))(hK:∀j,∃u,K j=amt u):DG n m K cl al dl:=by
 have hn:=iP n m cl al dl;have hn0:=iP n m0 cl al dl;have hm2:∀i,i<n->Sm 1000 (m i)/\jB 60 100 (m i):=λi hi=>⟨(hm i hi).1.mono jj,(hm i hi).2⟩
 have hc:∀a:Nat->Bool,jX (iW n (oI m K a) cl al dl):=λa=>h.g.XW λi hi=>by
  obtain⟨u,hu⟩:=hK i;unfold oI;cases a i with
  |true=>rw[ab rfl,hu];exact adt (hm i hi).1 (hm i hi).2
  |false=>exact hm2 i hi
 refine⟨h.n4,h.g.XW hm2,λ_=>hB.chg,⟨λi hi=>?_,h.s.w,by rw[hn,<-hn0];exact h.s.le,h.s.ld,h.s.ll⟩,⟨λi hi=>?_,by rw[hn,<-hn0];exact h.l.n,h.l.d,h.l.l⟩,λi hi=>?_,hc,h.k,h.k0,λa=>amQ hW ho (hc a)⟩
 .rw[hn]at hi;have h1:=h.s.e i (by rw[hn0];exact hi);rw[wG _ _ _ _ hi]at h1⊢;exact⟨vU ((hm i hi).1.mono jj),h1.c,h1.a,h1.lc,h1.la,h1.lt,h1.lp⟩
 .rw[hn]at hi;have h1:=h.l.e i (by rw[hn0];exact hi);rw[wG _ _ _ _ hi]at h1⊢;exact⟨h1.c,h1.a,h1.t,h1.p⟩
 .rw[hn]at hi;have h1:=h.z i (by rw[hn0];exact hi);rw[wG _ _ _ _ hi]at h1⊢;exact h1
def am2{m':Nat->Rat}{a a':Nat->Bool}{x x':Nat->Rat}{r:Nat}(h:DG n m K cl al dl)(h':DG n m' K cl al dl)(hle:∀i,i<n->m i<=m' i)(hx:Sr (n:=n) (g:=bI (iW n m cl al dl)) (oI m K a) x)(ht:BEq n (shT n (iW n m cl al dl) m K a) a)
  (hx':Sr (n:=n) (g:=bI (iW n m' cl al dl)) (oI m' K a') x') (hC:Di n (shT n (iW n m' cl al dl) m' K) (λ_=>false) a' r):Ik n a' a/\∀i,i<n->x i<=x' i:=by
 have hn:=iP n m cl al dl
 have hn':=iP n m' cl al dl
 have hgl:bI (iW n m' cl al dl)=bI (iW n m cl al dl):=amO
 have hcs:∀b:Nat->Bool,∀i,i<n->oI m K b i<=oI m' K b i:=λb i hi=>by
  have:=hle i hi;unfold oI sH;cases b i with
  |false=>exact this
  |true=>
   simp only[gT]
   have e1:∀q:Rat,(0<=mW q 0)↔0<=q:=λq=>by unfold mW;rcases nT (q-0)with⟨e,h4⟩|⟨e,h4⟩|⟨e,h4⟩<;>rw[e]<;>constructor<;>intro h5<;>first|grind|omega
   simp only[e1]
   split<;>split<;>grind
 have hsh:shG (iW n m' cl al dl)=shG (iW n m cl al dl):=by funext x i;unfold shG;rw[VE (m:=m),adp (m:=m),(adl (m:=m') (m':=m) i).1]
 have h1:Ik n a' a:=by
  refine hC.f a ?_ λi _ e=>by cases e
  refine Ik.trans ?_ ht.le;obtain⟨y,hy⟩:=h'.ex a;have e1:=L8 (g:=iW n m' cl al dl) (m:=m') (c:=K) (a:=a) (x:=y) h'.g (by rw[hn'];exact hy);have e2:=L8 (g:=iW n m cl al dl) (m:=m) (c:=K) (a:=a) (x:=x) h.g (by rw[hn];exact hx);rw[hn']at e1;rw[hn]at e2;refine e1.le.trans (Ik.trans ?_ e2.symm.le);rw[hsh];have:=J3 h.g (x:=x) (y:=y) (by rw[hn];exact hx.nn) (by rw[hn];exact adn (hcs a) hx (hgl▸hy));rw[hn]at this;exact this
 refine⟨h1,adn (λi hi=>?_) hx (hgl▸hx')⟩
 have h2:=afu (g:=iW n m cl al dl) (m:=m) (c:=K) (a:=a') (b:=a) (λi _=>h.k0 i) (λi hi=>by have:=(h.g.m i hi).2.2.1;rw[wG _ _ _ _ jb,nU]at this;exact this) (by rw[hn];exact h1) i (by rw[hn];exact hi)
 have h3:=hcs a' i hi
 grind
end
def aa2{J:St}(hW:WF J){p q:Nat->Prop}{n:Nat}(hn:n<=1000){k:Nat->Nat}(hk:∀i,i<n->k i<=1000){a b:B}{f g:Nat->Nat->Rat}(h1:dQ p J.h a n k f)(h2:dQ q J.h b n k g)(hle:∀i c,i<n->c<k i->f i c<=g i c/\Sz (f i c)/\Sz (g i c)):
  aC EN 12 [.c a,.c b] J λr J'=>r=.c (.bool true)/\Fr J J':=by
 refine aN (BR.o _ _) BR.h ?_
 unfold BR
 dsimp only
 have hla:=h1.len
 have hlb:=h2.len
 have hFr:=Fr.refl hW
 simp(disch:=try exact jz)only[go_sem,hla,hlb,FX]
 refine aF (λz tm J'=>∃i,z=n-i/\i<=n/\r8 tm 0=.c a/\r8 tm 1=.c b/\r8 tm 5=jN i/\Fr J J') n ?_ ?_
 .refine⟨0,jb,jb,?_⟩
  refine WN ?_
  exact hFr
 .rintro z tm J' ⟨i,rfl,hi,t0,t1,t5,hF⟩
  simp(disch:=try exact jz)only[go_sem,W3,hla,aA]
  refine aH (λhlt=>?_) (λhlt=>?_)
  .obtain⟨b5,o5,c5,T5,e5,-,bC,Zz⟩:=h1.at hlt
   obtain⟨b6,o6,c6,T6,e6,-,bJ,hr6⟩:=h2.at hlt
   have hk':=hk i hlt
   have hm5:=hF.ld hW bC
   have hm6:=hF.ld hW bJ
   have hl5:=aZ.len Zz
   have hl6:=aZ.len hr6
   have k5:=aZ.kn Zz
   have k6:=aZ.kn hr6
   have t0':=t0
   have t1':=t1
   rw[e5]at t0'
   rw[e6]at t1'
   simp(disch:=try exact jz)only[go_sem,t0',t1',t5,hm5,hm6,hl5,hl6,k5,k6,FX]
   refine aF (λz tm σ2=>∃j,z=k i-j/\j<=k i/\r8 tm 0=.c (.sl b5 o5 n c5)/\r8 tm 1=.c (.sl b6 o6 n c6)/\r8 tm 5=jN i/\r8 tm 6=jN j/\Fr J σ2) (k i) ?_ ?_
   .refine⟨0,jb,jb,?_⟩
    simp(disch:=try exact jz)only[go_sem,t0',t1',t5]
    exact hF
   .rintro z tm σ2 ⟨j,rfl,hj,t0,t1,t5,t6,hF2⟩
    have bC:=hF2.ld hW bC
    have bJ:=hF2.ld hW bJ
    simp(disch:=try exact jz)only[go_sem,W3,bC,hl5,aA]
    refine aH (λhlj=>?_) (λhlj=>?_)
    .obtain⟨b7,o7,c7,rfl,-,cZ⟩:=aZ.at3 Zz hlj
     obtain⟨b8,o8,c8,rfl,-,og⟩:=aZ.at3 hr6 hlj
     have cZ:=hF2.ld hW cZ
     have og:=hF2.ld hW og
     obtain⟨l1,z1,z2⟩:=hle i j hlt hlj
     have f2:decide ((Int.ofNat 0:Int)<mW (f i j) (g i j))=false:=af (Int.not_lt.mpr (rZ.mpr l1))
     simp(disch:=try exact jz)only[go_sem,W3,bC,bJ,cZ,og,f2]
     exact⟨k i-(j+1),jb,j+1,rfl,jb,rfl,hF2⟩
    .obtain rfl:j=k i:=jb
     refine WP ?_
     exact⟨n-(i+1),jb,i+1,rfl,jb,by rw[e5],by rw[e6],rfl,hF2⟩
  .obtain rfl:i=n:=jb
   simp(disch:=try exact jz)only[go_sem,t0,t1]
   exact hF
def am3{J:St}(hW:WF J){a n:Nat}(ha:a<=1000)(hn:0<n)(hn4:n<=4):aC EN 7 [jN a,jN n] J λr J'=>r=jN (a%n)/\Fr J J':=by
 refine aN (KP.o _ _) KP.h ?_;unfold KP;dsimp only;have hFr:=Fr.refl hW;have d1:decide (Int.ofNat n<=Int.ofNat 0)=false:=af λh=>by have:=Int.ofNat_le.mp h;omega
 have h1:=cA a hn;have h2:(a%n+n)%n=a%n:=by rw[Nat.add_mod_right,Nat.mod_mod]
 simp(disch:=try exact jz)only[go_sem,d1,h2];exact hFr
def X3{J:St}(hW:WF J){nm MV nl np nd late nk av xv:Nat}(hnm:nm<=255)(amV:late<=65535)(hav:av<=255)(hxv:xv<=65535){cv lv pv dv kv:B}(M:Nat->Nat)(L P D:Nat->Nat->Nat)(hcv:HL J.h 1 cv MV λi=>[.int .u16 (.ofNat (M i))])(hM:∀i,i<MV->M i<=65535)
  (hlv:HL J.h 4 lv nl λi=>[.int .u16 (.ofNat (L i 0)),.int .u16 (.ofNat (L i 1)),.int .u16 (.ofNat (L i 2)),.int .u16 (.ofNat (L i 3))]) (hL:∀i j,i<nl->L i j<=65535) (hnl:nl<=9223372036854775806)
  (hpv:HL J.h 3 pv np λi=>[.int .u16 (.ofNat (P i 0)),.int .u16 (.ofNat (P i 1)),.int .u16 (.ofNat (P i 2))]) (hP:∀i j,i<np->P i j<=65535) (hnp:np<=9223372036854775806)
  (hdv:HL J.h 3 dv nd λi=>[.int .u16 (.ofNat (D i 0)),.int .u16 (.ofNat (D i 1)),.int .u16 (.ofNat (D i 2))]) (hD:∀i j,i<nd->D i j<=65535) (hnd:nd<=9223372036854775806) (Z:Nat->Nat) (hkv:HL J.h 1 kv nk λi=>[.int .u16 (.ofNat (Z i))]) (hZ:∀i,i<nk->Z i<=65535)
  (haw:∀s:St,WF s->aC EN 10 [] s λr s'=>r=.c (.bool true)/\Fr s s'):
  aC EN 3 [.c (.int .u8 (.ofNat nm)),.c cv,.c lv,.c pv,.c dv,.c (.int .u16 (.ofNat late)),.c kv,.c (.int .u8 (.ofNat av)),.c (.int .u16 (.ofNat xv))] J λr _=>r=.c (.bool true):=by
 refine aN (oz.o _ _) oz.h ?_
 unfold oz
 dsimp only
 have hkk:=hkv.kn
 refine WX ?_
 refine(ah1 hW hnm M L P D hcv hM hlv hL hnl hpv hP hnp hdv hD hnd amV).mono ?_
 rintro _ σ1 ⟨eb,zy,m,cl,bs,A,al,dl,rfl,ho,hB,hb⟩
 have hs1:1<=1+nm%4:=jb
 have hs4:1+nm%4<=4:=jb
 generalize 1+nm%4=n at*
 have hF1:=hb.fr
 have hg1:=hb.hg
 have hn:=iP n m cl al dl
 have hek:(B.sl eb 0 n .opn).kn=true:=rfl
 have hdk:=hg1.d.kn
 have hlenE:lenV (.c (.sl eb 0 n .opn))=some (jN n):=rfl
 have WR:=Fr.refl hF1.wf
 have apq:=ho.ehi
 have ayT:=ho.elo
 simp(disch:=try exact jz)only[go_sem,hek,hdk]
 refine aC.st (Fr σ1) (fr) λhF=>?_
 have q1:=ay (hset σ1.h σ1.aj ⟨[.aO,.aO],none⟩) σ1.aj ⟨[.sl eb 0 n .opn,zy],none⟩
 refine(apC hF.wf (iW n m cl al dl) (hg1.fr hF1.wf hF) jb Z (hkv.fr hW (hF1.trans hF)) hZ).mono ?_
 rintro _ σ2 ⟨rv,rfl,hO,hf2⟩
 rw[hn]at hO
 have hrk:=hO.kn
 have hC:aZ (λb=>σ1.aj+1<=b/\b<σ2.aj) σ2.h 3 rv n λj=>dP (qJ Z nk j):=iZ.hlp hO (λ_=>rfl) jj (λ_ _=>rfl) λb h1 h=>⟨h1,h⟩
 have hF2:=hF.trans hf2
 have q12:=hf2.get hF.wf q1
 have hKa:∀j,∃u,qJ Z nk j=amt u:=λj=>by
  unfold qJ;split
  .exact⟨_,rfl⟩
  .exact⟨2,YU.symm⟩
 have hDG:=DG.of (K:=qJ Z nk) hF1.wf ho hB hb hKa
 simp(disch:=try exact jz)only[go_sem,au q12,q12,hek,hdk,hrk]
 refine(adr hf2.wf hDG (hg1.fr hF1.wf hF2) hC).mono ?_
 rintro _ σ3 ⟨d0,cm,G,Dv,Rf,Nt,Su,Re,Fu,a,x,k,rfl,hV,hCl,hkn,hf3⟩
 have k0:=aZ.kn hV.d
 obtain⟨_,_,_,_,_,_,_,_,ea,k1,k2,k3,k4,k5,k6,k7,k8⟩:=hV.c8
 cases ea
 have hF3:=hF2.trans hf3
 have hle2:σ1.aj+1<=σ2.aj:=hf2.le
 have hle3:=hf3.le
 have q13:=hf3.get hf2.wf q12
 have acj:=Fr.refl hf3.wf
 simp(disch:=try exact jz)only[go_sem,k0,k1,k2,k3,k4,k5,k6,k7,k8,au q13,q13,hek,hdk,hrk,hlenE]
 refine aC.st (Fr σ3) (fr) λgB=>?_
 have aCj:=ay (hset σ3.h σ3.aj ⟨[.aO,.aO,.aO,.aO,.aO,.aO,.aO,.aO,.aO,.int .i64 (.ofNat 0)],none⟩) σ3.aj ⟨[d0,cm,G,Dv,Rf,Nt,Su,Re,Fu,.int .i64 (.ofNat k)],none⟩
 refine(am3 gB.wf (show av<=1000 by omega) jb hs4).mono ?_
 rintro _ σ4 ⟨rfl,hf4⟩
 have him:av%n<n:=cA _ jb
 generalize av%n=i at*
 have Ue:=gB.trans hf4
 have awq:=hF3.trans Ue
 have TN:=Ue.get hf3.wf q13
 have q18:=hf4.get gB.wf aCj
 have ho4:=ho.mono (h':=σ4.h) (λb _ hb=>awq.old b hb) jp
 have ZN:=ho4.ldM him
 have heE:=ho4.e
 have hwM:=aq3 (m:=m) (cl:=cl) (bs:=bs) (A:=A) (q:=m i+amt xv) him
 have hz1:Sz (m i):=by obtain⟨v,e⟩:=hB.mm i him;rw[e];exact WS v
 have hz2:=WS xv
 simp(disch:=try exact jz)only[go_sem,au TN,TN,hek,hdk,hrk,hlenE,ZN,heE,aG heE,hwM]
 have h04:=hF1.trans awq
 have hW5:Fr J ⟨hset σ4.h eb ⟨aY n (nY (aJ m i (m i+amt xv)) cl bs A),some (5,49)⟩,σ4.aj⟩:=by have h9:=awq.le;exact fr
 obtain⟨σ5,e5⟩:∃s:St,s=⟨hset σ4.h eb ⟨aY n (nY (aJ m i (m i+amt xv)) cl bs A),some (5,49)⟩,σ4.aj⟩:=⟨_,rfl⟩
 rw[<-e5]at hW5⊢
 have hW5:=hW5.wf
 have hkp:∀b,b≠eb->σ5.h b=σ4.h b:=λb hb=>by rw[e5];exact ak _ _ _ _ hb
 have hn5:σ5.aj=σ4.aj:=by rw[e5]
 have ho5:=ho4.au1 (h':=σ5.h) i (m i+amt xv) (by rw[e5];exact ay _ _ _) (λb _ _ hb=>hkp b hb)
 clear hwM heE ZN e5 ho4
 have ayS:=Ue.le
 have hV5:=hV.keep (h':=σ5.h) (q:=λb=>σ2.aj<=b/\b<σ3.aj) (λb hb=>(hkp b (by have:=hb.1;omega)).trans (Ue.old b hb.2)) λ_ hb=>hb
 have hC5:=aZ.keep (h':=σ5.h) (q:=λ_=>True) hC (λb hb=>(hkp b (by have:=hb.1;omega)).trans ((hf3.trans Ue).old b hb.2)) λ_ _=>trivial
 have q15:=(hkp σ1.aj jb).trans TN
 have q18:=(hkp σ3.aj jb).trans q18
 have hM':∀j,j<n->Sm 100 (aJ m i (m i+amt xv) j)/\jB 60 100 (aJ m i (m i+amt xv) j):=λj hj=>by
  obtain⟨v,e⟩:=hB.mm j hj;by_cases h9:j=i
  .subst h9;rw[aI,e];exact⟨((jD v).add (jD xv)).mono jj,(nR v).aAx (nR xv)⟩
  .rw[aQ _ _ _ _ h9,e];exact⟨(jD v).mono jj,(nR v).c60⟩
 have awr:=DG.XW hW5 ho5 hB hDG hM' hKa
 have hmm:∀j,j<n->m j<=aJ m i (m i+amt xv) j:=λj hj=>by
  by_cases h9:j=i
  .subst h9;rw[aI];have:=(nR xv).2.1;grind
  .rw[aQ _ _ _ _ h9];exact aR
 generalize aJ m i (m i+amt xv)=m' at*
 refine(adr hW5 awr (ho5.grp .opn) hC5).mono ?_
 rintro _ σ6 ⟨e0,cm',G',Dv',Rf',Nt',Su',Re',Fu',a',x',k',rfl,hV',aCk,hkn',iD⟩
 have j0:=aZ.kn hV'.d
 obtain⟨_,_,_,_,_,_,_,_,ea,j1,j2,j3,j4,j5,j6,j7,j8⟩:=hV'.c8
 cases ea
 obtain⟨hBL,hxx⟩:=am2 hDG awr hmm hV.g hV.t hV'.g aCk
 have aCl:=iD.get hW5 q18
 have zC:=iD.le
 have azy:=Fr.refl iD.wf
 simp(disch:=try exact jz)only[go_sem,j0,j1,j2,j3,j4,j5,j6,j7,j8]
 refine aC.st (Fr σ6) (fr) λnS=>?_
 have aCm:=ay (hset σ6.h σ6.aj ⟨[.aO,.aO,.aO,.aO,.aO,.aO,.aO,.aO,.aO,.int .i64 (.ofNat 0)],none⟩) σ6.aj ⟨[e0,cm',G',Dv',Rf',Nt',Su',Re',Fu',.int .i64 (.ofNat k')],none⟩
 refine(haw _ nS.wf).mono ?_
 rintro _ σ8 ⟨rfl,uf⟩
 have am4:=nS.trans uf
 have awt:=am4.get iD.wf aCl
 have awu:=uf.get nS.wf aCm
 have hd1:decide (Int.ofNat 0=Int.ofNat 0)=true:=rfl
 have hl0:=aZ.len hV.d
 have hl0':=aZ.len hV'.d
 have hA8:=aZ.fr hW5 (iD.trans am4) hV5.d
 have hB8:=aZ.fr iD.wf am4 hV'.d
 have hdn:decide (Int.ofNat n=Int.ofNat n)=true:=aq rfl
 simp(disch:=try exact jz)only[go_sem,hd1,au awt,awt,au awu,awu,hl0,hl0',hdn,k0,j0]
 refine(am1 uf.wf jb hB8.hl hA8.hl).mono ?_
 rintro _ σ9 ⟨⟨d1,rfl,aCn⟩,S9⟩
 obtain rfl:d1=true:=aCn.mpr hBL
 have awv:=S9.get uf.wf awt
 have aww:=S9.get uf.wf awu
 simp(disch:=try exact jz)only[go_sem,au awv,awv,au aww,aww,k0,j0,k1,j1,k3,j3]
 obtain⟨Dz,hz⟩:=hV.z.awn (hDG.c a)
 obtain⟨Dz',hz'⟩:=hV'.z.awn (awr.c a')
 have s5:=hV5.s.keep (q:=λ_=>True) (h':=σ9.h) (λb hb=>(iD.trans (am4.trans S9)).old b (by rw[hn5];omega)) λ_ _=>trivial
 have s9:=hV'.s.keep (q:=λ_=>True) (h':=σ9.h) (λb hb=>(am4.trans S9).old b hb.2) λ_ _=>trivial
 obtain⟨_,_,_,_,_,_,_,_,ea,v1,-,v3,-⟩:=s5
 cases ea
 obtain⟨_,_,_,_,_,_,_,_,ea,w1,-,w3,-⟩:=s9
 cases ea
 rw[iP]at v1 w1
 rw[iP,VE (m:=m),ads (m:=m)]at v3 w3
 have hkk:∀j,j<n->kE (iW n m cl al dl).e j<=1000:=λj hj=>by have:=(hDG.l.e j (by rw[hn];exact hj)).c;unfold kE;omega
 refine(aa2 S9.wf jb hkk v3 w3 λj c hj hc=>⟨JE (hDG.g.NJ.nn j (by rw[hn];exact hj)) (hV.g.nn j hj) (hxx j hj) c,?_,?_⟩).mono ?_
 .have:=hz.vz j (by rw[iP];exact hj) c (by rw[VE (m:=m)];exact hc)
  rw[ads (m:=m)]at this
  exact this.sz hz.d (by have:=qC;omega)
 .have:=hz'.vz j (by rw[iP];exact hj) c (by rw[VE (m:=m)];exact hc)
  rw[ads (m:=m)]at this
  exact this.sz hz'.d (by have:=qC;omega)
 rintro _ σA ⟨rfl,hfA⟩
 have awx:=hfA.get S9.wf awv
 have awy:=hfA.get S9.wf aww
 have awh:=Fr.refl hfA.wf
 have b1:=hfA.wf.lt awy
 have b2:=hfA.wf.lt awx
 simp(disch:=try exact jz)only[go_sem,au awx,awx,au awy,awy,k1,j1]
 refine aC.st (Fr σA) (fr) λhFB=>?_
 have hsz:=hV.z.sz jj jj
 have hsz':=hV'.z.sz jj jj
 rw[iP]at hsz hsz'
 refine(aa2 hFB.wf (n:=1) (k:=λ_=>n) (f:=λ_=>x) (g:=λ_=>x') (p:=λ_=>True) (q:=λ_=>True) jb (λ_ _=>jb) ⟨λ_=>cm,bD (n:=1) (G:=λ_=>[cm]) _ ((ak _ _ _ _ jb).trans (ay _ _ _)) rfl trivial (λ_=>rfl) jj λ_ _=>by simp[k1],λ_ _=>aZ.keep (aZ.fr S9.wf (hfA.trans hFB) v1) (λ_ _=>rfl) λ_ _=>trivial⟩
  ⟨λ_=>cm',bD (n:=1) (G:=λ_=>[cm']) _ (ay _ _ _) rfl trivial (λ_=>rfl) jj λ_ _=>by simp[j1],λ_ _=>aZ.keep (aZ.fr S9.wf (hfA.trans hFB) w1) (λ_ _=>rfl) λ_ _=>trivial⟩ λ_ c _ hc=>⟨hxx c hc,hsz.1 c hc,hsz'.1 c hc⟩).mono ?_
 rintro _ σC ⟨rfl,hfC⟩
 simp(disch:=try exact jz)only[go_sem,am]
def awC(_:Nat):List C5:=[⟨-1,2,mV 100⟩]
abbrev Gg(m:Nat->Rat):fH:=iW 1 m awC (λ_=>[]) []
def awL:gI:=[[],[],[(0,100)],[],[],[],[],[]]
section
variable {m:Nat→Rat}
def rP:ix (Gg m).e 0=⟨mV (m 0),[⟨-1,2,mV 100⟩],[]⟩:=wG (n:=1) m awC (λ_=>[]) [] jb
def X4:bZ (ix (Gg m).e 0)=⟨awL,[]⟩:=by
 rw[rP];unfold bZ;have:Tc [(⟨-1,2,mV 100⟩:C5)] 1=awL:=by have e:(mV 100).q=100:=nU _;unfold Tc Cj Cj ix awL;show [_,_,_,_,_,_,_,_]=_;simp only[List.getD_cons_zero,e];rfl
 show fC.mk (Tc [(⟨-1,2,mV 100⟩:C5)] 1) _=_;rw[this];rfl
def am5(hm:jB 60 100 (m 0)/\Sm 1000 (m 0)):jX (Gg m):=by
 have hn:(Gg m).e.length=1:=iP ..;have hk:kE (Gg m).e 0=1:=by unfold kE;rw[rP];rfl
 have hf:∀{r:Rat},Sm 1000 r->(mV r).fits 1000000:=λh=>vU (h.mono jb);have up:∀{r:R3},r.fits 1000000->r.fits 134217728:=λh=>⟨by have:=h.1;omega,by have:=h.2;omega⟩
 have h1:Sm 1000 (100:Rat):=(vO (i:=100) (k:=3) jj jj).mono jb;have hq:jB 60 100 (100:Rat):=⟨⟨6000,by decide+kernel⟩,jj,jj⟩
 have hc:∀k,jB 60 100 (ix [(⟨-1,2,mV 100⟩:C5)] k).a.q:=λk=>by
  cases k with
  |zero=>show jB 60 100 (mV 100).q;rw[nU];exact hq
  |succ k=>show jB 60 100 (default:R3).q;rw[R3.arV];exact(RS jj).zero
 have hcf:∀k,k<[(⟨-1,2,mV 100⟩:C5)].length->(ix [(⟨-1,2,mV 100⟩:C5)] k).a.fits 1000000:=λk hk=>by
  have:k=0:=by have:k<1:=hk;omega
  rw[this];exact hf h1
 have hz:Np (Gg m)=0:=by
  have e0:Dp (ix (Gg m).e 0)=0:=by
   rw[rP];unfold Dp;dsimp only;have e:Dn (λk=>Qh (ix [(⟨-1,2,mV 100⟩:C5)] k)) [(⟨-1,2,mV 100⟩:C5)].length=0:=kL λk hk=>by
    have:k=0:=by have:k<1:=hk;omega
    rw[this];unfold Qh;show(if(-1:Int)< -1\/8<=(-1:Int)then 19 else if(2:Int)<0\/7<(2:Int)then 1 else if sg (mV 100).q<0 then 7 else 0)=0;rw[ae jb,ae jj,ae (wF (by rw[nU];exact hq.2.1))]
   rw[ae (by show¬(24<1\/12<0);omega),ae (wF (by rw[nU];exact hm.1.2.1)),ae (λh=>h e)];rfl
  have e1:Dn (λi=>Dp (ix (Gg m).e i)) 1=0:=kL λi hi=>by rw[show i=0 by omega];exact e0
  have e2:Dn (λi=>Dn (Qj (Gg m) i) (ix (Gg m).e i).c.length) 1=0:=kL λi hi=>kL λk hk=>by
   have:i=0:=jb;subst this;rw[rP]at hk;have:k=0:=by have:k<1:=hk;omega
   subst this;unfold Qj;rw[hn,rP];show(if((1:Nat):Int)<=(-1:Int)\/(-1:Int)=((0:Nat):Int)then _ else _)=_;rw[ae jb]
  unfold Np;rw[hn,ae (by show¬(8<1\/16<0);omega),ae (λh=>h e1),ae (λh=>h e2)];rfl
 refine⟨jb,⟨jb,by show 0<=1000;omega,λi hi=>?_,λd hd=>(by cases hd),λd hd=>(by cases hd)⟩,⟨λi hi=>?_,λd hd=>(by cases hd),jb,by show 0<=_;omega,λd hd=>(by cases hd)⟩,hz,λi hi=>?_,λi hi=>?_,λi hi=>?_,λi hi=>?_,λi hi k=>?_,λi hi c hc'=>?_,λi hi=>?_,by show 0<=3;omega,λd hd=>(by cases hd)⟩;all_goals
  obtain rfl:i=0:=jb
 .rw[rP];refine⟨by show 1<=1000;omega,by show 0<=1000;omega,λk hk=>⟨2,jb,?_⟩,λk hk=>hcf k hk,λk=>?_,λj hj=>(by cases hj)⟩
  .have:k=0:=by have:k<1:=hk;omega
   rw[this];rfl
  .have:=hc k;exact⟨this.1,this.2.1,cF this.2.2 az8⟩
 .rw[rP];exact⟨up (hf hm.2),λk hk=>up (hcf k hk),λj t p hj=>(by cases hj),by show 1<=_;omega,by show 0<=_;omega,λj hj=>(by cases hj),λj t hj=>(by cases hj)⟩
 .omega
 .rw[hk,X4];refine⟨λt ht p hp=>?_,λp hp=>(by cases hp)⟩;have:p=(0,100):=by unfold awL at ht;simp only[bw,List.not_mem_nil,or_false]at ht;rcases ht with rfl|rfl|rfl|rfl|rfl|rfl|rfl|rfl<;>first|cases hp;done|exact dq.mp hp
  rw[this];exact⟨.inr (show(0:Int)<=0/\(0:Int)<((1:Nat):Int) by decide),hq⟩
 .rw[hk,X4];exact⟨jb,by show 0<8;omega,by show 8<=1000;omega,by show 1<=1000;omega,by show 0<=1000;omega,λp hp=>(by cases hp),λp hp=>(by cases hp)⟩
 .rw[X4];exact⟨by show 1<=48;omega,by show 8<=8;omega,by show 0<=2;omega,λp hp=>(by cases hp)⟩
 .rw[rP];exact hc k
 .rw[hk]at hc';have:c=0:=jb;subst this;rw[rP];exact .inl rfl
 .rw[rP];show(mV (m 0)).fits _/\jB 60 100 (mV (m 0)).q;rw[nU];exact⟨hf hm.2,hm.1⟩
def asa(y:Nat->Rat):gG 1 (bI (Gg m)) y 0=0:=by
 unfold gG;have h1:aB 1 (λi=>aB ((bI (Gg m)).k i) λc=>if wB (bI (Gg m)) 0 i c then gq (bI (Gg m)) y (i,c)else 0)=0:=bK λi hi=>bK λc hc=>by
  obtain rfl:i=0:=jb;have hc:c<(ix (Gg m).e 0).c.length:=hc;rw[rP]at hc;obtain rfl:c=0:=by have:c<1:=hc;omega
  have e:wB (bI (Gg m)) 0 0 0=false:=by show(true&&(ix (ix (Gg m).e 0).c 0).h==((0:Nat):Int))=false;rw[rP];rfl
  rw[ae (by rw[e];exact Bool.false_ne_true)]
 rw[h1];exact(bp (λz=>(0:Rat)+z) (show aK (bI (Gg m)).ds (dG (bI (Gg m)) y 0)=0 from rfl)).trans (cN 0)
def X5{c:Nat->Rat}(hc:0<=c 0):Sr (n:=1) (g:=bI (Gg m)) c c:=by
 have h0:∀j,j<1->j=0:=λj hj=>jb;refine⟨λi hi=>by rw[h0 i hi];exact hc,λj hj=>?_,λy hy hp j hj=>?_⟩
 .rw[h0 j hj,asa,cN]
 .have:=hp j hj;rw[h0 j hj,asa,cN]at this;rw[h0 j hj];exact this
def awz{k:Nat}(hk:k<(ix (Gg m).e 0).c.length):k=0:=by rw[rP]at hk;have:k<1:=hk;omega
def L9:Sm 1000 (100:Rat):=(vO (i:=100) (k:=3) jj jj).mono jb
def aAy:Sm 1000 (80:Rat):=(vO (i:=80) (k:=3) jj jj).mono jb
def aAz:Sm 1000 (20:Rat):=(vO (i:=20) (k:=3) jj jj).mono jb
def VF(_:Nat):Rat:=100
def awK(_:Nat):Rat:=20
def X6(a:Nat->Bool):oI VF awK a 0=if a 0 then 80 else 100:=by
 unfold oI VF awK;cases a 0 with
 |true=>show sH (100-20) 0=80;decide+kernel
 |false=>rfl
def SV(a:Nat->Bool):jB 60 100 (oI VF awK a 0)/\Sm 1000 (oI VF awK a 0):=by
 rw[X6];cases a 0 with
 |true=>exact⟨⟨⟨4800,by decide+kernel⟩,jj,jj⟩,aAy⟩
 |false=>exact⟨⟨⟨6000,by decide+kernel⟩,jj,jj⟩,L9⟩
def afz:DG 1 VF awK awC (λ_=>[]) []:=by
 have hn:(Gg VF).e.length=1:=iP ..;have hf:∀{r:Rat},Sm 1000 r->(mV r).fits 1000000:=λh=>vU (h.mono jb);have hi0:∀{i:Nat},i<(Gg VF).e.length->i=0:=λ{i} h=>jb;refine⟨jb,am5 ⟨⟨⟨6000,by decide+kernel⟩,jj,jj⟩,L9⟩,λF=>?_,⟨λi hi=>?_,λd hd=>(by cases hd),by show _<=_;rw[hn];omega,by show 0<=_;omega,λd hd=>(by cases hd)⟩,⟨λi hi=>?_,by show _<=8;rw[hn];omega,by show 0<=8;omega,λd hd=>(by cases hd)⟩,λi hi k hk=>?_,λa=>am5 (SV a),λ_=>aAz,λ_=>by show(0:Rat)<=20;decide,λa=>⟨_,X5 (SV a).1.2.1⟩⟩
 .show cpG (Gg VF) _=Gg _;unfold cpG;rw[hn];show fH.mk [_] []=fH.mk [_] [];congr 2;show vZ.mk _ ((ix (Gg VF).e 0).c.map Nv) ((ix (Gg VF).e 0).a.map Ht)=vZ.mk _ _ _;rw[rP];show vZ.mk _ [C5.mk (-1) 2 (clR (mV 100))] []=vZ.mk _ [C5.mk (-1) 2 (mV 100)] [];rw[OH];congr 2;unfold ZM oI xU;rw[rP];dsimp only;rw[nU];cases F 0 with
  |true=>rw[ab ⟨jb,rfl⟩,ab rfl]
  |false=>rw[ae (λh=>by cases h.2)];rfl
 .rw[hi0 hi,rP];exact⟨hf L9,λk hk=>by
   have:k=0:=by have:k<1:=hk;omega
   rw[this];exact hf L9,λj t p hj=>(by cases hj),by show 1<=_;omega,by show 0<=_;omega,λj hj=>(by cases hj),λj t hj=>(by cases hj)⟩
 .rw[hi0 hi,rP];exact⟨by show 1<=8;omega,by show 0<=8;omega,λj hj=>(by cases hj),λj t hj=>(by cases hj)⟩
 .have:=hi0 hi;subst this;rw[awz hk,rP];have h1:=(hf L9)
  show(mV 100).s.size+(mV 100).d.size<=130000000/\Sz (mV 100).q;rw[nU];exact⟨by have:=h1.1;have:=h1.2;omega,L9.mono (by unfold szK;omega)⟩
def aAA(a:Nat->Bool):shT 1 (Gg VF) VF awK a 0=a 0:=by
 have hn:(Gg VF).e.length=1:=iP ..;have hG:=afz.g;have h1:=L8 (g:=Gg VF) (m:=VF) (c:=awK) (a:=a) hG (x:=oI VF awK a) (by rw[hn];exact X5 (SV a).1.2.1) 0 jb;rw[hn]at h1;rw[h1];unfold shG;have hk:kE (Gg VF).e 0=1:=by unfold kE;rw[rP];rfl
 rw[hk];unfold Xv;rw[X4,X6];show((decide ((ix (ix (Gg VF).e 0).c 0).r<6)&&decide (AU ⟨awL,[]⟩ (if a 0 then 80 else 100) 0<(ix (ix (Gg VF).e 0).c 0).a.q))||false)=a 0;rw[rP];show((decide ((2:Int)<6)&&decide (AU ⟨awL,[]⟩ (if a 0 then 80 else 100) 0<(mV 100).q))||false)=a 0;rw[nU];cases a 0 with
 |true=>decide+kernel
 |false=>decide+kernel
end
def ah3{J:St}(hW:WF J)(hwh:∀k:Nat,k<=100->∀(s:St) (K:V->St->Prop),aC EN 20 [jN k] s K=K (.agg (rK ((Int.ofNat k:Int):Rat))) s):
  aC EN 10 [] J λr J'=>r=.c (.bool true)/\Fr J J':=by
 refine aN (Ew.o _ _) Ew.h ?_
 unfold Ew
 dsimp only
 have w1:=hwh 100 jb
 have w2:=hwh 20 jb
 have w3:=hwh 80 jb
 have hFr:=Fr.refl hW
 simp(disch:=try exact jz)only[go_sem,w1,w2]
 refine aC.st (Fr J) (fr) λhF=>?_
 have hg:rW (Lt (J.aj+1+1+1+1)) (hset (hset (hset (hset (hset J.h J.aj ⟨[.int .i64 (Int.negSucc 0),.int .i64 (.ofNat 2),.bool (rn ((Int.ofNat 100:Int):Rat)),.str (rs ((Int.ofNat 100:Int):Rat)),.str (rd ((Int.ofNat 100:Int):Rat))],none⟩) (J.aj+1) ⟨[.bool (rn ((Int.ofNat 100:Int):Rat)),.str (rs ((Int.ofNat 100:Int):Rat)),.str (rd ((Int.ofNat 100:Int):Rat)),.sl J.aj 0 1 (.ex 1),.aO],none⟩) (J.aj+1+1) ⟨[.aO,.aO],none⟩) (J.aj+1+1) ⟨[.sl (J.aj+1) 0 1 (.ex 1),.aO],none⟩) (J.aj+1+1+1) ⟨(rK ((Int.ofNat 20:Int):Rat)),none⟩) (.sl (J.aj+1) 0 1 (.ex 1)) .aO (Gg VF):=by
  refine⟨⟨λ_=>.sl J.aj 0 1 (.ex 1),λ_=>.aO,?_,λi hi=>?_⟩,⟨λ_=>.aO,.inl ⟨rfl,rfl⟩,λi hi=>by cases hi⟩⟩
  .refine bD (n:=1) (e:=5) _ (by simp(disch:=omega) only[ak,ay];rfl) rfl (by show J.aj+1<J.aj+1+1+1+1;omega) (λ_=>rfl) jj λj hj=>?_;obtain rfl:j=0:=jb;rfl
  .obtain rfl:i=0:=by have:i<1:=hi;omega
   exact⟨bD (n:=1) (e:=5) _ (by simp(disch:=omega) only[ak,ay];rfl) rfl (by show J.aj<J.aj+1+1+1+1;omega) (λ_=>rfl) jj (λ_ _=>rfl),λ_=>.aO,.inl ⟨rfl,rfl⟩,λi hi=>by cases hi⟩
 have hC:aZ (Lt (J.aj+1+1+1+1)) (hset (hset (hset (hset (hset J.h J.aj ⟨[.int .i64 (Int.negSucc 0),.int .i64 (.ofNat 2),.bool (rn ((Int.ofNat 100:Int):Rat)),.str (rs ((Int.ofNat 100:Int):Rat)),.str (rd ((Int.ofNat 100:Int):Rat))],none⟩) (J.aj+1) ⟨[.bool (rn ((Int.ofNat 100:Int):Rat)),.str (rs ((Int.ofNat 100:Int):Rat)),.str (rd ((Int.ofNat 100:Int):Rat)),.sl J.aj 0 1 (.ex 1),.aO],none⟩) (J.aj+1+1) ⟨[.aO,.aO],none⟩) (J.aj+1+1) ⟨[.sl (J.aj+1) 0 1 (.ex 1),.aO],none⟩) (J.aj+1+1+1) ⟨(rK ((Int.ofNat 20:Int):Rat)),none⟩) 3 (.sl (J.aj+1+1+1) 0 1 (.ex 1)) 1 λj=>dP (awK j):=bD (G:=λj=>dP (awK j)) _ (ay _ _ _) rfl (bB _) (λ_=>rfl) jj λ_ _=>rfl
 have q1:(hset (hset (hset (hset (hset J.h J.aj ⟨[.int .i64 (Int.negSucc 0),.int .i64 (.ofNat 2),.bool (rn ((Int.ofNat 100:Int):Rat)),.str (rs ((Int.ofNat 100:Int):Rat)),.str (rd ((Int.ofNat 100:Int):Rat))],none⟩) (J.aj+1) ⟨[.bool (rn ((Int.ofNat 100:Int):Rat)),.str (rs ((Int.ofNat 100:Int):Rat)),.str (rd ((Int.ofNat 100:Int):Rat)),.sl J.aj 0 1 (.ex 1),.aO],none⟩) (J.aj+1+1) ⟨[.aO,.aO],none⟩) (J.aj+1+1) ⟨[.sl (J.aj+1) 0 1 (.ex 1),.aO],none⟩) (J.aj+1+1+1) ⟨(rK ((Int.ofNat 20:Int):Rat)),none⟩) (J.aj+1+1)=some ⟨[.sl (J.aj+1) 0 1 (.ex 1),.aO],none⟩:=by simp(disch:=omega) only[ak,ay]
 have hM:=afz.mono
 have hT:=aAA
 refine(adr hF.wf afz hg hC).mono ?_
 rintro _ σ2 ⟨d0,cm,G,Dv,Rf,Nt,Su,Re,Fu,a,x,k,rfl,hV,hCl,-,hf2⟩
 have hV:=hV.keep (q:=Lt σ2.aj) (λ_ _=>rfl) λ_ h=>h.2
 have k0:=aZ.kn hV.d
 obtain⟨_,_,_,_,_,_,_,_,ea,k1,k2,k3,k4,k5,k6,k7,k8⟩:=hV.c8
 cases ea
 have hF2:=hF.trans hf2
 have hle2:J.aj+1+1+1+1<=σ2.aj:=hf2.le
 have q12:=hf2.get hF.wf q1
 have Nq:=Fr.refl hf2.wf
 simp(disch:=try exact jz)only[go_sem,k0,k1,k2,k3,k4,k5,k6,k7,k8,au q12,q12]
 refine aC.st (Fr σ2) (fr) λhF3=>?_
 have q33:=ay (hset σ2.h σ2.aj ⟨[.aO,.aO,.aO,.aO,.aO,.aO,.aO,.aO,.aO,.int .i64 (.ofNat 0)],none⟩) σ2.aj ⟨[d0,cm,G,Dv,Rf,Nt,Su,Re,Fu,.int .i64 (.ofNat k)],none⟩
 refine(aq2 hF3.wf afz (hg.fr hF.wf (hf2.trans hF3)) (aZ.fr hF.wf (hf2.trans hF3) hC)).mono ?_
 rintro _ σ4 ⟨e0,cm',G',Dv',Rf',Nt',Su',Re',Fu',a',x',k',rfl,hV',hFl,-,hf4⟩
 have hV':=hV'.keep (q:=Lt σ4.aj) (λ_ _=>rfl) λ_ h=>h.2
 have j0:=aZ.kn hV'.d
 obtain⟨_,_,_,_,_,_,_,_,ea,j1,j2,j3,j4,j5,j6,j7,j8⟩:=hV'.c8
 cases ea
 have Ue:=hF3.trans hf4
 have gB:=hF2.trans Ue
 have pK:σ2.aj+1<=σ4.aj:=hf4.le
 have q34:=hf4.get hF3.wf q33
 have EC:=Fr.refl hf4.wf
 have ha:a 0=false:=by
  have h1:=hCl.f (λ_=>false) (λi hi h=>by rw[show i=0 by omega,hT]at h;exact h) (λ_ _ h=>h) 0 jb;cases e:a 0 with
  |false=>rfl
  |true=>exact absurd (show false=true from h1 e) jj
 have ha':a' 0=true:=hFl.f (λ_=>true) (λi hi _=>by rw[show i=0 by omega,hT]) (λ_ _ h=>h) 0 jb rfl
 have hx:x 0=((Int.ofNat 100:Int):Rat):=by have:=Sr.uniq _ hV.g (X5 (SV a).1.2.1) 0 jb;rw[this,X6,ha];rfl
 have hx':x' 0=((Int.ofNat 80:Int):Rat):=by have:=Sr.uniq _ hV'.g (X5 (SV a').1.2.1) 0 jb;rw[this,X6,ha'];rfl
 obtain⟨_,_,_,_,_,_,_,_,ea,v1,-⟩:=hV.s
 cases ea
 obtain⟨_,_,_,_,_,_,_,_,ea,w1',-⟩:=hV'.s
 cases ea
 have v1:kX (Lt σ2.aj) σ2.h cm 1 x:=v1
 have w1':kX (Lt σ4.aj) σ4.h cm' 1 x':=w1'
 have v4:=aZ.fr hf2.wf Ue v1
 have lv:=aZ.len v4
 have lw:=aZ.len w1'
 obtain⟨b5,o5,c5,rfl,-,l5⟩:=aZ.at3 v4 (c:=0) jb
 obtain⟨b6,o6,c6,rfl,-,l6⟩:=aZ.at3 w1' (c:=0) jb
 rw[hx]at l5
 rw[hx']at l6
 have m5:=hf4.wf.dh l5
 have m6:=hf4.wf.dh l6
 have hd1:decide (Int.ofNat 0=Int.ofNat 0)=true:=rfl
 have hd2:decide (Int.ofNat 1=Int.ofNat 1)=true:=rfl
 have hd3:decide (((Int.ofNat 100:Int):Rat)=((Int.ofNat 100:Int):Rat))=true:=aq rfl
 have hd4:decide (((Int.ofNat 80:Int):Rat)=((Int.ofNat 80:Int):Rat))=true:=aq rfl
 simp(disch:=try exact jz)only[go_sem,w1,w3,hd1,hd2,hd3,hd4,lv,lw,l5,l6,au q34,q34,k0,k1,k2,k3,k4,k5,k6,k7,k8,j0,j1,j2,j3,j4,j5,j6,j7,j8]
 exact gB.trans (fr)
def ah4{J:St}(hW:WF J):aC EN 10 [] J λr J'=>r=.c (.bool true)/\Fr J J':=
 ah3 hW λk hk s K=>YZ k hk
def adu{W:World}{nm sv av xv:Nat}{v2 v3 v4 v5 v7:Value}(hnm:nm<=255)(hsv:sv<=65535)(hav:av<=255)(hxv:xv<=65535){n2 n3 n4 n5 n7:Nat}{M:Nat->Nat}{L P D:Nat->Nat->Nat}(h2:HL (St.of W).h 1 (zk W.heap.size v2) n2 λi=>[.int .u16 (.ofNat (M i))])(hM:∀i,i<n2->M i<=65535)
  (h3:HL (St.of W).h 4 (zk W.heap.size v3) n3 λi=>[.int .u16 (.ofNat (L i 0)),.int .u16 (.ofNat (L i 1)),.int .u16 (.ofNat (L i 2)),.int .u16 (.ofNat (L i 3))]) (hL:∀i j,i<n3->L i j<=65535) (hn3:n3<=140737488351232)
  (h4:HL (St.of W).h 3 (zk W.heap.size v4) n4 λi=>[.int .u16 (.ofNat (P i 0)),.int .u16 (.ofNat (P i 1)),.int .u16 (.ofNat (P i 2))]) (hP:∀i j,i<n4->P i j<=65535) (hn4:n4<=140737488351232)
  (h5:HL (St.of W).h 3 (zk W.heap.size v5) n5 λi=>[.int .u16 (.ofNat (D i 0)),.int .u16 (.ofNat (D i 1)),.int .u16 (.ofNat (D i 2))]) (hD:∀i j,i<n5->D i j<=65535) (hn5:n5<=140737488351232)
  {Z:Nat->Nat}(h7:HL (St.of W).h 1 (zk W.heap.size v7) n7 λi=>[.int .u16 (.ofNat (Z i))]) (hZ:∀i,i<n7->Z i<=65535):
  Calls Tryz.prog 3 #[.int .u8 (nm:Int),v2,v3,v4,v5,.int .u16 (sv:Int),v7,.int .u8 (av:Int),.int .u16 (xv:Int)] W λe w'=>e=.returned (.bool true)/\Below W.heap.size W w':=
 auJ (X3 (WF.of W) hnm hsv hav hxv M L P D h2 hM h3 hL jb h4 hP jb h5 hD jb Z h7 hZ λs hs=>ah4 hs) ⟨rfl,FK _ _ h2.kn,FK _ _ h3.kn,FK _ _ h4.kn,FK _ _ h5.kn,rfl,FK _ _ h7.kn,rfl,rfl,trivial⟩
end Go.Proofs.Xe
namespace Go.Proofs.Xe
open Go Go.RowKit Go.ChangeShapes Go.WideShapes Go.ChangeAt Go.Proofs.Ins Go.Proofs.YtjhhfbbndfpdaaaGreatDoor
theorem cash_lifted(os:Os)(started:os.Started)(H:Type)(enc:TypeId×Value->H):
  ReturnsInHanded {} Tryz.checked os 3 .any (λw args=>(Rows.defaultcostCashSpec.pre enc Tryz.prog Tryz.f3 [] false w args/\laidMetH Tryz.prog adI w)/\sizedMet enc Tryz.prog Tryz.f3 (OpenSpec.ofChange Rows.defaultcostCashSpec) false w args)
   (Rows.defaultcostCashSpec.post enc Tryz.prog Tryz.f3 false true false false):=by
 refine returnsInHanded_of_change_and (C:=Tryz.checked) (X:=λw _=>laidMetH Tryz.prog adI w) (λ_ _ _ hh h=>h.of_heap hh) own' started (by kernel_rfl) Tryz.func3
  (ChangeSpec.witness_shaped (enc:=enc) (C:=Tryz.checked) (os:=os) (X:=λw _=>laidMetH Tryz.prog adI w) false (World.laidAll Tryz.prog os adI) #[.int .u8 0,.slice none 0 0,.slice none 0 0,.slice none 0 0,.slice none 0 0,.int .u16 0,.slice none 0 0,.int .u8 0,.int .u16 0] 8 (World.laidAll_os _ _ _)
   (World.shaped_of_ZipB (by kernel_rfl) (by kernel_rfl)) (by kernel_rfl) (by kernel_rfl) (by kernel_rfl)
   (by rw[MakeChecks.laidMetH_plain _ _ _ (by kernel_rfl)];exact laidMet_laidAll _ (by kernel_rfl) (by kernel_rfl))) ?_
 intro W base args ds gs before hval0 hW hc hsz hL _
 have hval:∀(j:Nat) t v,Tryz.f3.params[j]?=some t->args[j]?=some v->Value.okWide Tryz.prog W .any base t v:=hval0
 have hW':=hW
 obtain⟨p,q,hA0,hV,rfl,_,_⟩:=hW
 have hA:DataW.TrodAll enc Tryz.prog W 0 (λ_=>true) true Tryz.f3.params.toList args.toList ds p:=hA0
 have hsz1:(DataW.weightsEach Tryz.prog (Tryz.f3.params.toList++Rows.defaultcostCashSpec.plain.varTypes Tryz.prog) (ds++gs)).all (·<=reachBytes)=true:=hsz
 obtain⟨rfl,rfl⟩:=trodVars_none hV
 rw[Tryz.params3]at hsz1 hval hA
 clear hA0 hval0 hsz hc hL hV
 obtain⟨v1,vs1,d1,ds1,p1,q1,e1,rfl,rfl,h1,hA⟩:=trodAll_cons hA
 obtain⟨v2,vs2,d2,ds2,p2,q2,rfl,rfl,rfl,h2,hA⟩:=trodAll_cons hA
 obtain⟨v3,vs3,d3,ds3,p3,q3,rfl,rfl,rfl,h3,hA⟩:=trodAll_cons hA
 obtain⟨v4,vs4,d4,ds4,p4,q4,rfl,rfl,rfl,h4,hA⟩:=trodAll_cons hA
 obtain⟨v5,vs5,d5,ds5,p5,q5,rfl,rfl,rfl,h5,hA⟩:=trodAll_cons hA
 obtain⟨v6,vs6,d6,ds6,p6,q6,rfl,rfl,rfl,h6,hA⟩:=trodAll_cons hA
 obtain⟨v7,vs7,d7,ds7,p7,q7,rfl,rfl,rfl,h7,hA⟩:=trodAll_cons hA
 obtain⟨v8,vs8,d8,ds8,p8,q8,rfl,rfl,rfl,h8,hA⟩:=trodAll_cons hA
 obtain⟨v9,vs9,d9,ds9,p9,q9,rfl,rfl,rfl,h9,hA⟩:=trodAll_cons hA
 obtain⟨rfl,rfl,rfl⟩:=trodAll_nil hA
 obtain rfl:args= #[v1,v2,v3,v4,v5,v6,v7,v8,v9]:=by rw[<-Array.toArray_toList (xs:=args),e1]
 clear hA e1
 obtain⟨D1,rfl,b1⟩:=aw7 (hval 0 _ _ rfl rfl) h1
 obtain⟨a2,n2,c2,f2,rfl,o2⟩:=AZ Tryz.underlying22 (hval 1 _ _ rfl rfl) h2
 obtain⟨w2,m2,D2,e2,l2,s2,b2⟩:=ajS o2 (AY hsz1 (j:=1) rfl rfl)
 obtain rfl:w2=.slice a2 n2 c2:=by simpa using e2.symm
 obtain⟨a3,n3,c3,f3,rfl,o3⟩:=AZ Tryz.underlying23 (hval 2 _ _ rfl rfl) h3
 obtain⟨w3,m3,D3,e3,l3,s3,b3⟩:=aug o3 (AY hsz1 (j:=2) rfl rfl)
 obtain rfl:w3=.slice a3 n3 c3:=by simpa using e3.symm
 obtain⟨a4,n4,c4,f4,rfl,o4⟩:=AZ Tryz.underlying24 (hval 3 _ _ rfl rfl) h4
 obtain⟨w4,m4,D4,e4,l4,s4,b4⟩:=ad5 o4 (AY hsz1 (j:=3) rfl rfl)
 obtain rfl:w4=.slice a4 n4 c4:=by simpa using e4.symm
 obtain⟨a5,n5,c5,f5,rfl,o5⟩:=AZ Tryz.underlying24 (hval 4 _ _ rfl rfl) h5
 obtain⟨w5,m5,D5,e5,l5,s5,b5⟩:=ad5 o5 (AY hsz1 (j:=4) rfl rfl)
 obtain rfl:w5=.slice a5 n5 c5:=by simpa using e5.symm
 obtain⟨D6,rfl,b6⟩:=aq9 (hval 5 _ _ rfl rfl) h6
 obtain⟨a7,n7,c7,f7,rfl,o7⟩:=AZ Tryz.underlying22 (hval 6 _ _ rfl rfl) h7
 obtain⟨w7,m7,D7,e7,l7,s7,b7⟩:=ajS o7 (AY hsz1 (j:=6) rfl rfl)
 obtain rfl:w7=.slice a7 n7 c7:=by simpa using e7.symm
 obtain⟨D8,rfl,b8⟩:=aw7 (hval 7 _ _ rfl rfl) h8
 obtain⟨D9,rfl,b9⟩:=aq9 (hval 8 _ _ rfl rfl) h9
 exact ait rfl rfl rfl (by kernel_rfl) hW' (adu b1 b6 b8 b9 s2 b2 s3 b3 l3 s4 b4 l4 s5 b5 l5 s7 b7)
end Go.Proofs.Xe
