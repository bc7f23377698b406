import Derived.Test.YtchhojplceoifaaGreatDoorYd46
set_option linter.all false
set_option maxRecDepth 100000
set_option maxHeartbeats 8000000
namespace Go.Proofs.Xe
open Go.RowKit Go.Proofs.Ins
def Cc{σ:St}(hW:WF σ){p p':Nat->Prop}{av bv:B}{n:Nat}{f g:Nat->Rat}(ha:jK p σ.h av n f)(hb:jK p' σ.h bv n g)(hn:n<=1000)(he:∀i,i<n->f i=g i):
  aC EN 14 [.c av,.c bv] σ λr σ'=>r=.c (.bool true)/\Fr σ σ':=by
 refine aP (Aa.o _ _) Aa.h ?_
 unfold Aa
 dsimp only
 have hla:=aX.len ha
 have hlb:=aX.len hb
 have hka:=aX.kn ha
 have hkb:=aX.kn hb
 have hFr:=Fr.refl hW
 have hd0:decide (Int.ofNat n=Int.ofNat n)=true:=be rfl
 simp(disch:=try exact jz) only[go_sem,z3,hla,hlb,hd0]
 refine aF (λx tm σ'=>∃j,x=n-j/\j<=n/\Tr.ah tm 0=.c av/\Tr.ah tm 1=.c bv/\Tr.ah tm 5=.c (.int .i64 (.ofNat j))/\Fr σ σ') n ?_ ?_
 .refine⟨0,jb,jb,?_⟩
  simp(disch:=try exact jz) only[go_sem,z3,am]
  exact hFr
 .rintro x tm σ' ⟨j,rfl,hj,t0,t1,t5,hF⟩
  simp(disch:=try exact jz) only[go_sem,z3,t0,t1,t5,hla,aG]
  refine aH (λhlt=>?_) (λhlt=>?_)
  .obtain⟨b5,o5,c5,rfl,-,bf⟩:=aX.at3 ha hlt
   obtain⟨b6,o6,c6,rfl,-,bK⟩:=aX.at3 hb hlt
   have bf:=hF.ld hW bf
   have bK:=hF.ld hW bK
   have hq:decide (f j=g j)=true:=be (he j hlt)
   have lK:=Fr.refl hF.wf
   simp(disch:=try exact jz) only[go_sem,z3,t0,t1,t5,bf,bK,hq]
   exact⟨n-(j+1),jb,j+1,rfl,jb,rfl,hF⟩
  .simp(disch:=try exact jz) only[go_sem,z3,am]
   exact hF
def QJ{W:Rat}{q q':fK->Rat}{l:fK}:∀{t:List fK}{Q:Rat},(∀a∈t,q a=q' a)->GX W q Q t l=GX W q' Q t l
 |[],_,_=>rfl
 |a::t,Q,h=>by rw[Kq,Kq,h a kc,QJ λb hb=>h b (by simp[hb])]
def Lh{α:Type}{f g:α->Rat}:∀{l:List α},(∀a∈l,f a=g a)->aJ l f=aJ l g
 |[],_=>rfl
 |a::l,h=>by show f a+aJ l f=g a+aJ l g;rw[h a kc,Lh λb hb=>h b (by simp[hb])]
def aci{n:Nat}{g:GL}(hg:Ld n g){x y:Nat->Rat}(h:∀i,i<n->x i=y i)(l:fK):CY g x l=CY g y l:=by unfold CY;refine Lh λd hd=>QJ λa ha=>?_;unfold gq;rw[h a.1 (hg.fE a (cC.mpr ⟨d,hd,ha⟩)).1]
section
variable {n:Nat} {m m' : Nat→Rat} {cl:Nat→List C5} {al:Nat→List fC} {dl:List qj}
def Ji.bg{p:Nat->Prop}{h:Tr Bk}{r:V}{x y:Nat->Rat}(hV:Ji p h r (iW n m' cl al dl) x)(hG:jG (iW n m cl al dl))(hxy:∀i,i<n->x i=y i):Ji p h r (iW n m cl al dl) y:=by
 obtain⟨cm,G,Dv,Rf,Nt,Su,Re,Fu,rfl,v1,v2,v3,v4,v5,v6,v7,v8⟩:=hV;have hn:=lH n m cl al dl;have hn':=lH n m' cl al dl;rw[hn']at v1 v2 v3 v4 v5 v6 v7 v8;rw[alJ (m:=m)]at v2 v3 v4 v5;have ht:∀i,nK (ix (iW n m' cl al dl).e i) (kE (iW n m' cl al dl).e i)=nK (ix (iW n m cl al dl).e i) (kE (iW n m cl al dl).e i):=λi=>by unfold nK kE;rw[(acg (m:=m) (m':=m') i).1]
 have hr:∀l,CY (bI (iW n m' cl al dl)) x l=CY (bI (iW n m cl al dl)) y l:=λl=>by rw[aeg (m:=m)];exact aci hG.L6 (λi hi=>hxy i jb) l
 refine⟨cm,G,Dv,Rf,Nt,Su,Re,Fu,rfl,?_,?_,?_,?_,?_,?_,?_,?_⟩<;>rw[hn]
 .exact aX.congr v1 λi hi=>by rw[hxy i hi]
 .exact v2.congr λi c hi _=>by unfold TR;rw[KH (m:=m),hxy i hi]
 .exact v3.congr λi c hi _=>by unfold LU;rw[KH (m:=m),hxy i hi]
 .exact v4.congr λi c hi _=>hr (i,c)
 .exact v5.congr λi c hi _=>by unfold Ro gq;rw[hr,aeg (m:=m),hxy i hi]
 .exact aX.congr v6 λi hi=>by unfold suF;rw[ht,hxy i hi]
 .exact aX.congr v7 λi hi=>by unfold rsF;rw[KH (m:=m),hxy i hi]
 .exact aX.congr v8 λi hi=>by unfold fuF;rw[ht,hxy i hi]
end
def Ce{σ:St}(hW:WF σ){p p':Nat->Prop}{av bv:B}{n:Nat}{k:Nat->Nat}{f:Nat->Nat->Rat}(ha:dO p σ.h av n k f)(hb:dO p' σ.h bv n k f)(hn:n<=1000)(hk:∀i,i<n->k i<=1000):
  aC EN 72 [.c av,.c bv] σ λr σ'=>r=.c (.bool true)/\Fr σ σ':=by
 refine aP (Ac.o _ _) Ac.h ?_
 unfold Ac
 dsimp only
 have hla:=ha.len
 have hlb:=hb.len
 have hFr:=Fr.refl hW
 have hd0:decide (Int.ofNat n=Int.ofNat n)=true:=be rfl
 simp(disch:=try exact jz) only[go_sem,z3,hla,hlb,hd0]
 refine aF (λx tm σ'=>∃j,x=n-j/\j<=n/\Tr.ah tm 0=.c av/\Tr.ah tm 1=.c bv/\Tr.ah tm 5=.c (.int .i64 (.ofNat j))/\Fr σ σ') n ?_ ?_
 .refine⟨0,jb,jb,?_⟩
  simp(disch:=try exact jz) only[go_sem,z3,am]
  exact hFr
 .rintro x tm σ' ⟨j,rfl,hj,t0,t1,t5,hF⟩
  simp(disch:=try exact jz) only[go_sem,z3,t0,t1,t5,hla,aG]
  refine aH (λhlt=>?_) (λhlt=>?_)
  .obtain⟨b5,o5,c5,T,rfl,-,bf,hT⟩:=ha.at hlt
   obtain⟨b6,o6,c6,U,rfl,-,bK,hU⟩:=hb.at hlt
   have bf:=hF.ld hW bf
   have bK:=hF.ld hW bK
   have Pg:=aX.kn hT
   have hUk:=aX.kn hU
   simp(disch:=try exact jz) only[go_sem,z3,t0,t1,t5,bf,bK,Pg,hUk]
   refine(Cc hF.wf (aX.fr hW hF hT) (aX.fr hW hF hU) (hk j hlt) λ_ _=>rfl).mono ?_
   rintro _ σ2 ⟨rfl,hf2⟩
   simp(disch:=try exact jz) only[go_sem,z3,t0,t1,t5]
   exact⟨n-(j+1),jb,j+1,rfl,jb,rfl,hF.trans hf2⟩
  .simp(disch:=try exact jz) only[go_sem,z3,am]
   exact hF
def Us{σ:St}(hW:WF σ){p p':Nat->Prop}{ra rb:V}{g:fD}{x:Nat->Rat}(ha:Ji p σ.h ra g x)(hb:Ji p' σ.h rb g x)(hG:jG g):
  aC EN 30 [ra,rb] σ λr σ'=>r=.c (.bool true)/\Fr σ σ':=by
 refine aP (oG.o _ _) oG.h ?_
 unfold oG
 dsimp only
 obtain⟨a1,a2,a3,a4,a5,a6,a7,a8,rfl,v1,v2,v3,v4,v5,v6,v7,v8⟩:=ha
 obtain⟨b1,b2,b3,b4,b5,b6,b7,b8,rfl,w1,w2,w3,w4,w5,w6,w7,w8⟩:=hb
 have k1:=aX.kn v1;have k2:=v2.kn;have k3:=v3.kn;have k4:=v4.kn;have k5:=v5.kn;have k6:=aX.kn v6;have k7:=aX.kn v7;have k8:=aX.kn v8
 have j1:=aX.kn w1;have j2:=w2.kn;have j3:=w3.kn;have j4:=w4.kn;have j5:=w5.kn;have j6:=aX.kn w6;have j7:=aX.kn w7;have j8:=aX.kn w8
 have l8:=aX.len v8
 have m8:=aX.len w8
 have hn:=hG.n
 have hk6:∀i,i<g.e.length->kE g.e i<=1000:=λi hi=>by have:=hG.k6 i hi;omega
 have hFr:=Fr.refl hW
 simp(disch:=try exact jz) only[go_sem,z3,k1,k2,k3,k4,k5,k6,k7,k8,j1,j2,j3,j4,j5,j6,j7,j8]
 refine aC.st (Fr σ) (fr) λhF=>?_
 have q0:=(ak (hset σ.h σ.aj ⟨[a1,a2,a3,a4,a5,a6,a7,a8],none⟩) (σ.aj+1) σ.aj ⟨[b1,b2,b3,b4,b5,b6,b7,b8],none⟩ jb).trans (aA _ _ _)
 have q1:=aA (hset σ.h σ.aj ⟨[a1,a2,a3,a4,a5,a6,a7,a8],none⟩) (σ.aj+1) ⟨[b1,b2,b3,b4,b5,b6,b7,b8],none⟩
 refine(Cc hF.wf (aX.fr hW hF v1) (aX.fr hW hF w1) jb λ_ _=>rfl).mono ?_
 rintro _ σ2 ⟨rfl,hf2⟩
 have hF2:=hF.trans hf2
 have q02:=hf2.get hF.wf q0
 have q12:=hf2.get hF.wf q1
 simp(disch:=try exact jz) only[go_sem,z3,au q02,q02,au q12,q12,k1,k2,k3,k4,k5,k6,k7,k8,j1,j2,j3,j4,j5,j6,j7,j8]
 refine(Ce hF2.wf (v2.fr hW hF2) (w2.fr hW hF2) jb hk6).mono ?_
 rintro _ σ3 ⟨rfl,hf3⟩
 have hF3:=hF2.trans hf3
 have q03:=hf3.get hF2.wf q02
 have q13:=hf3.get hF2.wf q12
 simp(disch:=try exact jz) only[go_sem,z3,au q03,q03,au q13,q13,k1,k2,k3,k4,k5,k6,k7,k8,j1,j2,j3,j4,j5,j6,j7,j8]
 refine(Ce hF3.wf (v3.fr hW hF3) (w3.fr hW hF3) jb hk6).mono ?_
 rintro _ σ4 ⟨rfl,hf4⟩
 have jB:=hF3.trans hf4
 have q04:=hf4.get hF3.wf q03
 have Ns:=hf4.get hF3.wf q13
 simp(disch:=try exact jz) only[go_sem,z3,au q04,q04,au Ns,Ns,k1,k2,k3,k4,k5,k6,k7,k8,j1,j2,j3,j4,j5,j6,j7,j8]
 refine(Ce jB.wf (v4.fr hW jB) (w4.fr hW jB) jb hk6).mono ?_
 rintro _ σ5 ⟨rfl,hf5⟩
 have fZ:=jB.trans hf5
 have q05:=hf5.get jB.wf q04
 have q15:=hf5.get jB.wf Ns
 simp(disch:=try exact jz) only[go_sem,z3,au q05,q05,au q15,q15,k1,k2,k3,k4,k5,k6,k7,k8,j1,j2,j3,j4,j5,j6,j7,j8]
 refine(Ce fZ.wf (v5.fr hW fZ) (w5.fr hW fZ) jb hk6).mono ?_
 rintro _ σ6 ⟨rfl,gX⟩
 have jI:=fZ.trans gX
 have q06:=gX.get fZ.wf q05
 have q16:=gX.get fZ.wf q15
 simp(disch:=try exact jz) only[go_sem,z3,au q06,q06,au q16,q16,k1,k2,k3,k4,k5,k6,k7,k8,j1,j2,j3,j4,j5,j6,j7,j8]
 refine(Cc jI.wf (aX.fr hW jI v6) (aX.fr hW jI w6) jb λ_ _=>rfl).mono ?_
 rintro _ σ7 ⟨rfl,uh⟩
 have oV:=jI.trans uh
 have q07:=uh.get jI.wf q06
 have q17:=uh.get jI.wf q16
 simp(disch:=try exact jz) only[go_sem,z3,au q07,q07,au q17,q17,k1,k2,k3,k4,k5,k6,k7,k8,j1,j2,j3,j4,j5,j6,j7,j8]
 refine(Cc oV.wf (aX.fr hW oV v7) (aX.fr hW oV w7) jb λ_ _=>rfl).mono ?_
 rintro _ σ8 ⟨rfl,qL⟩
 have Hw:=oV.trans qL
 have q08:=qL.get oV.wf q07
 have q18:=qL.get oV.wf q17
 have hdn:decide (Int.ofNat g.e.length=Int.ofNat g.e.length)=true:=be rfl
 simp(disch:=try exact jz) only[go_sem,z3,au q08,q08,au q18,q18,k1,k2,k3,k4,k5,k6,k7,k8,j1,j2,j3,j4,j5,j6,j7,j8,l8,m8,hdn]
 refine aF (λx tm σ'=>∃j,x=g.e.length-j/\j<=g.e.length/\Tr.ah tm 2=.c (.ptr σ.aj 0)/\Tr.ah tm 3=.c (.ptr (σ.aj+1) 0)/\Tr.ah tm 5=.c (.int .i64 (.ofNat j))/\Fr σ8 σ') g.e.length ?_ ?_
 .refine⟨0,jb,jb,?_⟩
  simp(disch:=try exact jz) only[go_sem,z3,am]
  exact Fr.refl Hw.wf
 .rintro x tm σ' ⟨j,rfl,hj,t2,t3,t5,hf⟩
  have q0':=hf.get Hw.wf q08
  have q1':=hf.get Hw.wf q18
  simp(disch:=try exact jz) only[go_sem,z3,t2,t3,t5,au q0',q0',au q1',q1',k1,k2,k3,k4,k5,k6,k7,k8,j1,j2,j3,j4,j5,j6,j7,j8,l8,aG]
  refine aH (λhlt=>?_) (λhlt=>?_)
  .obtain⟨b9,o9,c9,e9,G8⟩:=v8.hl.one jb
   obtain⟨b0,o0,c0,e0,sV⟩:=w8.hl.one jb
   have hFf:=Hw.trans hf
   have G8:=hFf.ld hW (G8 j hlt)
   have sV:=hFf.ld hW (sV j hlt)
   have hbb:(false==(fuF g x j==fuF g x j))=false:=by cases fuF g x j<;>rfl
   rw[e9]at q0' k8
   rw[e0]at q1' j8
   simp(disch:=try exact jz) only[go_sem,z3,t2,t3,t5,au q0',q0',au q1',q1',k1,k2,k3,k4,k5,k6,k7,k8,j1,j2,j3,j4,j5,j6,j7,j8,G8,sV,hbb]
   exact⟨g.e.length-(j+1),jb,j+1,rfl,jb,rfl,hf⟩
  .simp(disch:=try exact jz) only[go_sem,z3,am]
   exact Hw.trans hf
def H6.cc{n:Nat}{g:GL}{c c' x:Nat->Rat}(h:H6 (n:=n) (g:=g) c x)(hc:∀i,i<n->c i=c' i):H6 (n:=n) (g:=g) c' x:=
 ⟨h.nn,λj hj=>by rw[<-hc j hj];exact h.fix j hj,λy hy hp=>h.grt y hy λj hj=>by rw[hc j hj];exact hp j hj⟩
def XI:amt 2=0:=by rfl
def DG.of{σ0 σ:St}(hW:WF σ){ev dv:B}{n eb:Nat}{m K:Nat->Rat}{cl:Nat->List C5}{bs:Nat->Nat}{A:Nat->B}{al:Nat->List fC}{dl:List qj}{lo hi:Nat}(ho:lJ σ.h dv n eb m cl bs A al dl lo hi)(hB:BG n m cl al dl)(hb:Built σ0 σ ev dv (iW n m cl al dl))(hK:∀j,∃u,K j=amt u):DG n m K cl al dl:=by
 have hc:∀a:Nat->Bool,jG (iW n (qp m K a) cl al dl):=λa=>hB.Ae.apu λi hi=>by
  obtain⟨v,hv⟩:=hB.mm i hi;obtain⟨u,hu⟩:=hK i;unfold qp;cases a i with
  |true=>rw[ae rfl,hv,hu];exact agM v u
  |false=>
   rw[hv]
   exact⟨(qU v).mono jj,(tX v).c60⟩
 refine⟨hB.n4,hB.Ae,λ_=>hB.chg,hb.s,hb.l,hb.z,hc,λj=>?_,λj=>?_,λa=>auM hW ho (hc a)⟩
 .obtain⟨u,hu⟩:=hK j;rw[hu];exact(qU u).mono jj
 .obtain⟨u,hu⟩:=hK j;rw[hu];exact(tX u).2.1
def alO{m:Nat->Rat}{a:Nat->Bool}{i:Nat}(h:0<=m i):qp m (λ_=>0) a i=m i:=by
 unfold qp vJ;cases a i with
 |true=>
  rw[ae rfl]
  split
  .grind
  .next h2=>
   have h3:¬0<=oq (m i-0) 0:=h2
   unfold oq at h3
   rcases ou (m i-0-0)with⟨e,h4⟩|⟨e,h4⟩|⟨e,h4⟩
   .grind
   .grind
   .omega
 |false=>rfl
def acj{σ:St}(hW:WF σ){nm KW nl np nd late:Nat}(hnm:nm<=255)(alE:late<=65535){cv lv pv dv:B}(M:Nat->Nat)(L P D:Nat->Nat->Nat)(hcv:HL σ.h 1 cv KW λi=>[.int .u16 (.ofNat (M i))])(hM:∀i,i<KW->M i<=65535)
  (hlv:HL σ.h 4 lv nl λi=>[.int .u16 (.ofNat (L i 0)),.int .u16 (.ofNat (L i 1)),.int .u16 (.ofNat (L i 2)),.int .u16 (.ofNat (L i 3))]) (hL:∀i j,i<nl->L i j<=65535) (hnl:nl<=9223372036854775806)
  (hpv:HL σ.h 3 pv np λi=>[.int .u16 (.ofNat (P i 0)),.int .u16 (.ofNat (P i 1)),.int .u16 (.ofNat (P i 2))]) (hP:∀i j,i<np->P i j<=65535) (hnp:np<=9223372036854775806)
  (hdv:HL σ.h 3 dv nd λi=>[.int .u16 (.ofNat (D i 0)),.int .u16 (.ofNat (D i 1)),.int .u16 (.ofNat (D i 2))]) (hD:∀i j,i<nd->D i j<=65535) (hnd:nd<=9223372036854775806)
  (haw:∀s:St,WF s->aC EN 29 [] s λr s'=>r=.c (.bool true)/\Fr s s'):
  aC EN 7 [.c (.int .u8 (.ofNat nm)),.c cv,.c lv,.c pv,.c dv,.c (.int .u16 (.ofNat late))] σ λr _=>r=.c (.bool true):=by
 refine aP (nR.o _ _) nR.h ?_
 unfold nR
 dsimp only
 simp(disch:=try exact jz) only[go_sem,z3]
 refine(agN hW hnm M L P D hcv hM hlv hL hnl hpv hP hnp hdv hD hnd alE).mono ?_
 rintro _ σ1 ⟨eb,yO,m,cl,bs,A,al,dl,rfl,ho,hB,hb⟩
 have hs1:1<=1+nm%4:=jb
 have hs4:1+nm%4<=4:=jb
 generalize 1+nm%4=n at*
 have hF1:=hb.fr
 have hg1:=hb.hg
 have hn:=lH n m cl al dl
 have hG:=hB.Ae
 have hek:(B.sl eb 0 n .opn).kn=true:=rfl
 have hdk:=hg1.d.kn
 have hlenE:lenV (.c (.sl eb 0 n .opn))=some (.c (.int .i64 (.ofNat n))):=rfl
 have hDG:=DG.of (K:=λ_=>0) hF1.wf ho hB hb λj=>⟨2,XI.symm⟩
 have hm0:∀i,i<n->0<=m i:=λi hi=>by obtain⟨v,hv⟩:=hB.mm i hi;rw[hv];exact(tX v).2.1
 have abE:=Fr.refl hF1.wf
 simp(disch:=try exact jz) only[go_sem,z3,hek,hdk,hlenE]
 refine aC.st (Fr σ1) (fr) λhF=>?_
 have q1:=(ak (hset (hset σ1.h σ1.aj ⟨[.aO,.aO],none⟩) σ1.aj ⟨[.sl eb 0 n .opn,yO],none⟩) (σ1.aj+1) σ1.aj ⟨cO n λ_=>0,none⟩ jb).trans (aA _ _ _)
 have hC:aX (λb=>b=σ1.aj+1) (hset (hset (hset σ1.h σ1.aj ⟨[.aO,.aO],none⟩) σ1.aj ⟨[.sl eb 0 n .opn,yO],none⟩) (σ1.aj+1) ⟨cO n λ_=>0,none⟩) 3 (.sl (σ1.aj+1) 0 n (.ex n)) n λj=>dY 0:=bD (G:=λ_=>dY 0) _ (aA _ _ _) rfl rfl (λ_=>rfl) jj λ_ _=>rfl
 refine(alL hF.wf hDG (hg1.fr hF1.wf hF) hC).mono ?_
 rintro _ σ2 ⟨d0,cm,G,Dv,Rf,Nt,Su,Re,Fu,a,x,k,rfl,hV,-,-,hf2⟩
 have k0:=aX.kn hV.d
 obtain⟨_,_,_,_,_,_,_,_,ea,k1,k2,k3,k4,k5,k6,k7,k8⟩:=hV.c8
 cases ea
 have hF2:=hF.trans hf2
 have hle2:σ1.aj+1+1<=σ2.aj:=hf2.le
 have q12:=hf2.get hF.wf q1
 have hC2:=aX.fr hF.wf hf2 hC
 have V7:=Fr.refl hf2.wf
 simp(disch:=try exact jz) only[go_sem,z3,k0,k1,k2,k3,k4,k5,k6,k7,k8,au q12,q12,hek,hdk]
 refine aC.st (Fr σ2) (fr) λhF3=>?_
 have JX:=hF2.trans hF3
 have aAl:=aA (hset σ2.h σ2.aj ⟨[.aO,.aO,.aO,.aO,.aO,.aO,.aO,.aO,.aO,.int .i64 (.ofNat 0)],none⟩) σ2.aj ⟨[d0,cm,G,Dv,Rf,Nt,Su,Re,Fu,.int .i64 (.ofNat k)],none⟩
 refine(ael hF3.wf hDG (hg1.fr hF1.wf JX) (aX.fr hf2.wf hF3 hC2)).mono ?_
 rintro _ σ4 ⟨e0,cm',G',Dv',Rf',Nt',Su',Re',Fu',a',x',k',rfl,hV',-,-,hf4⟩
 have j0:=aX.kn hV'.d
 obtain⟨_,_,_,_,_,_,_,_,ea,j1,j2,j3,j4,j5,j6,j7,j8⟩:=hV'.c8
 cases ea
 have ZM:=hF3.trans hf4
 have aje:=hF2.trans ZM
 have oM:σ2.aj+1<=σ4.aj:=hf4.le
 have Ns:=ZM.get hf2.wf q12
 have aAm:=hf4.get hF3.wf aAl
 have FH:=Fr.refl hf4.wf
 simp(disch:=try exact jz) only[go_sem,z3,j0,j1,j2,j3,j4,j5,j6,j7,j8,au Ns,Ns,hek,hdk]
 refine aC.st (Fr σ4) (fr) λfZ=>?_
 have aAn:=aA (hset σ4.h σ4.aj ⟨[.aO,.aO,.aO,.aO,.aO,.aO,.aO,.aO,.aO,.int .i64 (.ofNat 0)],none⟩) σ4.aj ⟨[e0,cm',G',Dv',Rf',Nt',Su',Re',Fu',.int .i64 (.ofNat k')],none⟩
 refine(WO (g:=iW n m cl al dl) fZ.wf (hg1.fr hF1.wf (aje.trans fZ)) hG).mono ?_
 rintro _ σ6 ⟨y,⟨rr,rfl,hW6⟩,-,-,hgy,gX⟩
 have ayB:=hW6
 obtain⟨b1,b2,b3,b4,b5,b6,b7,b8,rfl,w1,w2,w3,w4,w5,w6,w7,w8⟩:=hW6
 have i1:=aX.kn w1;have i2:=w2.kn;have i3:=w3.kn;have i4:=w4.kn;have i5:=w5.kn;have i6:=aX.kn w6;have i7:=aX.kn w7;have i8:=aX.kn w8
 have afK:=fZ.trans gX
 have yS:σ4.aj+1<=σ6.aj:=gX.le
 have aAo:=afK.get hf4.wf aAm
 have aAp:=gX.get fZ.wf aAn
 have axD:=Fr.refl gX.wf
 simp(disch:=try exact jz) only[go_sem,z3,i1,i2,i3,i4,i5,i6,i7,i8]
 refine aC.st (Fr σ6) (fr) λoV=>?_
 have aAq:=aA (hset σ6.h σ6.aj ⟨[.aO,.aO,.aO,.aO,.aO,.aO,.aO,.aO],none⟩) σ6.aj ⟨[b1,b2,b3,b4,b5,b6,b7,b8],none⟩
 refine(haw _ oV.wf).mono ?_
 rintro _ σ8 ⟨rfl,qL⟩
 have agO:=oV.trans qL
 have ayC:=agO.get gX.wf aAo
 have aAr:=agO.get gX.wf aAp
 have ak2:=qL.get oV.wf aAq
 have hd1:decide (Int.ofNat 0=Int.ofNat 0)=true:=rfl
 have hgm:H6 (n:=n) (g:=bI (iW n m cl al dl)) m y:=by rw[hn]at hgy;exact H6.cc hgy λi hi=>by unfold jl;rw[zK _ _ _ _ hi];exact nH _
 have hx:=H6.uniq _ (H6.cc hV.g λi hi=>alO (hm0 i hi)) hgm
 have hx':=H6.uniq _ (H6.cc hV'.g λi hi=>alO (hm0 i hi)) hgm
 have s1:=(((hV.fr (hF3.trans (hf4.trans (afK.trans agO)))).s).bg hG hx)
 have s2:=(((hV'.fr (afK.trans agO)).s).bg hG hx')
 have s3:=ayB.keep (q:=λ_=>True) (h':=σ8.h) (λb hb=>agO.old b hb.2) λ_ _=>trivial
 simp(disch:=try exact jz) only[go_sem,z3,hd1,au ayC,ayC,au ak2,ak2,k0,k1,k2,k3,k4,k5,k6,k7,k8,i1,i2,i3,i4,i5,i6,i7,i8]
 refine(Us qL.wf s1 s3 hG).mono ?_
 rintro _ σ9 ⟨rfl,WZ⟩
 have ayD:=WZ.get qL.wf aAr
 have ayE:=WZ.get qL.wf ak2
 have s4:=s2.keep (q:=λ_=>True) (h':=σ9.h) (λb hb=>WZ.old b hb) λ_ _=>trivial
 have s5:=ayB.keep (q:=λ_=>True) (h':=σ9.h) (λb hb=>(agO.trans WZ).old b hb.2) λ_ _=>trivial
 simp(disch:=try exact jz) only[go_sem,z3,au ayD,ayD,au ayE,ayE,j0,j1,j2,j3,j4,j5,j6,j7,j8,i1,i2,i3,i4,i5,i6,i7,i8]
 refine(Us WZ.wf s4 s5 hG).mono ?_
 rintro _ σA ⟨rfl,hfA⟩
 simp(disch:=try exact jz) only[go_sem,z3]
def awC(_:Nat):List C5:=[⟨-1,2,mG 100⟩]
abbrev FC(m:Nat->Rat):fD:=iW 1 m awC (λ_=>[]) []
def awL:gu:=[[],[],[(0,100)],[],[],[],[],[]]
section
variable {m:Nat→Rat}
def qW:ix (FC m).e 0=⟨mG (m 0),[⟨-1,2,mG 100⟩],[]⟩:=zK (n:=1) m awC (λ_=>[]) [] jb
def WT:bY (ix (FC m).e 0)=⟨awL,[]⟩:=by
 rw[qW];unfold bY;have:QN [(⟨-1,2,mG 100⟩:C5)] 1=awL:=by have e:(mG 100).q=100:=nH _;unfold QN BO BO ix awL;show [_,_,_,_,_,_,_,_]=_;simp only[List.getD_cons_zero,e];rfl
 show fA.mk (QN [(⟨-1,2,mG 100⟩:C5)] 1) _=_;rw[this];rfl
def alP(hm:mJ 60 100 (m 0)/\Sm 1000 (m 0)):jG (FC m):=by
 have hn:(FC m).e.length=1:=lH ..;have hk:kE (FC m).e 0=1:=by unfold kE;rw[qW];rfl
 have hf:∀{r:Rat},Sm 1000 r->(mG r).fits 1000000:=λh=>xP (h.mono jb);have up:∀{r:R3},r.fits 1000000->r.fits 134217728:=λh=>⟨by have:=h.1;omega,by have:=h.2;omega⟩
 have h1:Sm 1000 (100:Rat):=(vk (i:=100) (k:=3) jj jj).mono jb;have hq:mJ 60 100 (100:Rat):=⟨⟨6000,by decide+kernel⟩,jj,jj⟩
 have hc:∀k,mJ 60 100 (ix [(⟨-1,2,mG 100⟩:C5)] k).a.q:=λk=>by
  cases k with
  |zero=>show mJ 60 100 (mG 100).q;rw[nH];exact hq
  |succ k=>show mJ 60 100 (default:R3).q;rw[R3.aqt];exact(Wp jj).zero
 have hcf:∀k,k<[(⟨-1,2,mG 100⟩:C5)].length->(ix [(⟨-1,2,mG 100⟩:C5)] k).a.fits 1000000:=λk hk=>by
  have:k=0:=by have:k<1:=hk;omega
  rw[this];exact hf h1
 have hz:Lu (FC m)=0:=by
  have e0:CV (ix (FC m).e 0)=0:=by
   rw[qW];unfold CV;dsimp only;have e:CU (λk=>OQ (ix [(⟨-1,2,mG 100⟩:C5)] k)) [(⟨-1,2,mG 100⟩:C5)].length=0:=jZ λk hk=>by
    have:k=0:=by have:k<1:=hk;omega
    rw[this];unfold OQ;show(if(-1:Int)< -1\/8<=(-1:Int)then 19 else if(2:Int)<0\/7<(2:Int)then 1 else if sg (mG 100).q<0 then 7 else 0)=0;rw[ab jb,ab jj,ab (vU (by rw[nH];exact hq.2.1))]
   rw[ab (by show¬(24<1\/12<0);omega),ab (vU (by rw[nH];exact hm.1.2.1)),ab (λh=>h e)];rfl
  have e1:CU (λi=>CV (ix (FC m).e i)) 1=0:=jZ λi hi=>by rw[show i=0 by omega];exact e0
  have e2:CU (λi=>CU (OU (FC m) i) (ix (FC m).e i).c.length) 1=0:=jZ λi hi=>jZ λk hk=>by
   have:i=0:=jb;subst this;rw[qW]at hk;have:k=0:=by have:k<1:=hk;omega
   subst this;unfold OU;rw[hn,qW];show(if((1:Nat):Int)<=(-1:Int)\/(-1:Int)=((0:Nat):Int)then _ else _)=_;rw[ab jb]
  unfold Lu;rw[hn,ab (by show¬(8<1\/16<0);omega),ab (λh=>h e1),ab (λh=>h e2)];rfl
 refine⟨jb,⟨jb,by show 0<=1000;omega,λi hi=>?_,λd hd=>(by cases hd),λd hd=>(by cases hd)⟩,⟨λi hi=>?_,λd hd=>(by cases hd),jb,by show 0<=_;omega,λd hd=>(by cases hd)⟩,hz,λi hi=>?_,λi hi=>?_,λi hi=>?_,λi hi=>?_,λi hi k=>?_,λi hi c hc'=>?_,λi hi=>?_,by show 0<=3;omega,λd hd=>(by cases hd)⟩;all_goals
  obtain rfl:i=0:=jb
 .rw[qW];refine⟨by show 1<=1000;omega,by show 0<=1000;omega,λk hk=>⟨2,jb,?_⟩,λk hk=>hcf k hk,λk=>?_,λj hj=>(by cases hj)⟩
  .have:k=0:=by have:k<1:=hk;omega
   rw[this];rfl
  .have:=hc k;exact⟨this.1,this.2.1,cL this.2.2 ayb⟩
 .rw[qW];exact⟨up (hf hm.2),λk hk=>up (hcf k hk),λj t p hj=>(by cases hj),by show 1<=_;omega,by show 0<=_;omega,λj hj=>(by cases hj),λj t hj=>(by cases hj)⟩
 .omega
 .rw[hk,WT];refine⟨λt ht p hp=>?_,λp hp=>(by cases hp)⟩;have:p=(0,100):=by unfold awL at ht;simp only[bz,List.not_mem_nil,or_false]at ht;rcases ht with rfl|rfl|rfl|rfl|rfl|rfl|rfl|rfl<;>first|cases hp;done|exact dp.mp hp
  rw[this];exact⟨.inr (show(0:Int)<=0/\(0:Int)<((1:Nat):Int) by decide),hq⟩
 .rw[hk,WT];exact⟨jb,by show 0<8;omega,by show 8<=1000;omega,by show 1<=1000;omega,by show 0<=1000;omega,λp hp=>(by cases hp),λp hp=>(by cases hp)⟩
 .rw[WT];exact⟨by show 1<=48;omega,by show 8<=8;omega,by show 0<=2;omega,λp hp=>(by cases hp)⟩
 .rw[qW];exact hc k
 .rw[hk]at hc';have:c=0:=jb;subst this;rw[qW];exact .inl rfl
 .rw[qW];show(mG (m 0)).fits _/\mJ 60 100 (mG (m 0)).q;rw[nH];exact⟨hf hm.2,hm.1⟩
def aqH(y:Nat->Rat):gG 1 (bI (FC m)) y 0=0:=by
 unfold gG;have h1:aB 1 (λi=>aB ((bI (FC m)).k i) λc=>if vP (bI (FC m)) 0 i c then gq (bI (FC m)) y (i,c)else 0)=0:=bJ λi hi=>bJ λc hc=>by
  obtain rfl:i=0:=jb;have hc:c<(ix (FC m).e 0).c.length:=hc;rw[qW]at hc;obtain rfl:c=0:=by have:c<1:=hc;omega
  have e:vP (bI (FC m)) 0 0 0=false:=by show(true&&(ix (ix (FC m).e 0).c 0).h==((0:Nat):Int))=false;rw[qW];rfl
  rw[ab (by rw[e];exact Bool.false_ne_true)]
 rw[h1];exact(bN (λz=>(0:Rat)+z) (show aJ (bI (FC m)).ds (dG (bI (FC m)) y 0)=0 from rfl)).trans (cV 0)
def WU{c:Nat->Rat}(hc:0<=c 0):H6 (n:=1) (g:=bI (FC m)) c c:=by
 have h0:∀j,j<1->j=0:=λj hj=>jb;refine⟨λi hi=>by rw[h0 i hi];exact hc,λj hj=>?_,λy hy hp j hj=>?_⟩
 .rw[h0 j hj,aqH,cV]
 .have:=hp j hj;rw[h0 j hj,aqH,cV]at this;rw[h0 j hj];exact this
def auT{k:Nat}(hk:k<(ix (FC m).e 0).c.length):k=0:=by rw[qW]at hk;have:k<1:=hk;omega
def KI:Sm 1000 (100:Rat):=(vk (i:=100) (k:=3) jj jj).mono jb
def ayF:Sm 1000 (80:Rat):=(vk (i:=80) (k:=3) jj jj).mono jb
def ayG:Sm 1000 (20:Rat):=(vk (i:=20) (k:=3) jj jj).mono jb
def Ut(_:Nat):Rat:=100
def awK(_:Nat):Rat:=20
def WV(a:Nat->Bool):qp Ut awK a 0=if a 0 then 80 else 100:=by
 unfold qp Ut awK;cases a 0 with
 |true=>show vJ (100-20) 0=80;decide+kernel
 |false=>rfl
def QL(a:Nat->Bool):mJ 60 100 (qp Ut awK a 0)/\Sm 1000 (qp Ut awK a 0):=by
 rw[WV];cases a 0 with
 |true=>exact⟨⟨⟨4800,by decide+kernel⟩,jj,jj⟩,ayF⟩
 |false=>exact⟨⟨⟨6000,by decide+kernel⟩,jj,jj⟩,KI⟩
def aem:DG 1 Ut awK awC (λ_=>[]) []:=by
 have hn:(FC Ut).e.length=1:=lH ..;have hf:∀{r:Rat},Sm 1000 r->(mG r).fits 1000000:=λh=>xP (h.mono jb);have hi0:∀{i:Nat},i<(FC Ut).e.length->i=0:=λ{i} h=>jb;refine⟨jb,alP ⟨⟨⟨6000,by decide+kernel⟩,jj,jj⟩,KI⟩,λF=>?_,⟨λi hi=>?_,λd hd=>(by cases hd),by show _<=_;rw[hn];omega,by show 0<=_;omega,λd hd=>(by cases hd)⟩,⟨λi hi=>?_,by show _<=8;rw[hn];omega,by show 0<=8;omega,λd hd=>(by cases hd)⟩,λi hi k hk=>?_,λa=>alP (QL a),λ_=>ayG,λ_=>by show(0:Rat)<=20;decide,λa=>⟨_,WU (QL a).1.2.1⟩⟩
 .show cpG (FC Ut) _=FC _;unfold cpG;rw[hn];show fD.mk [_] []=fD.mk [_] [];congr 2;show vM.mk _ ((ix (FC Ut).e 0).c.map LM) ((ix (FC Ut).e 0).a.map GH)=vM.mk _ _ _;rw[qW];show vM.mk _ [C5.mk (-1) 2 (clR (mG 100))] []=vM.mk _ [C5.mk (-1) 2 (mG 100)] [];rw[NG];congr 2;unfold Yw qp xq;rw[qW];dsimp only;rw[nH];cases F 0 with
  |true=>rw[ae ⟨jb,rfl⟩,ae rfl]
  |false=>rw[ab (λh=>by cases h.2)];rfl
 .rw[hi0 hi,qW];exact⟨hf KI,λk hk=>by
   have:k=0:=by have:k<1:=hk;omega
   rw[this];exact hf KI,λj t p hj=>(by cases hj),by show 1<=_;omega,by show 0<=_;omega,λj hj=>(by cases hj),λj t hj=>(by cases hj)⟩
 .rw[hi0 hi,qW];exact⟨by show 1<=8;omega,by show 0<=8;omega,λj hj=>(by cases hj),λj t hj=>(by cases hj)⟩
 .have:=hi0 hi;subst this;rw[auT hk,qW];have h1:=(hf KI)
  show(mG 100).s.size+(mG 100).d.size<=130000000/\Sz (mG 100).q;rw[nH];exact⟨by have:=h1.1;have:=h1.2;omega,KI.mono (by unfold szK;omega)⟩
def ayH(a:Nat->Bool):shT 1 (FC Ut) Ut awK a 0=a 0:=by
 have hn:(FC Ut).e.length=1:=lH ..;have hG:=aem.g;have h1:=WQ (g:=FC Ut) (m:=Ut) (c:=awK) (a:=a) hG (x:=qp Ut awK a) (by rw[hn];exact WU (QL a).1.2.1) 0 jb;rw[hn]at h1;rw[h1];unfold shG;have hk:kE (FC Ut).e 0=1:=by unfold kE;rw[qW];rfl
 rw[hk];unfold TR;rw[WT,WV];show((decide ((ix (ix (FC Ut).e 0).c 0).r<6)&&decide (Ae ⟨awL,[]⟩ (if a 0 then 80 else 100) 0<(ix (ix (FC Ut).e 0).c 0).a.q))||false)=a 0;rw[qW];show((decide ((2:Int)<6)&&decide (Ae ⟨awL,[]⟩ (if a 0 then 80 else 100) 0<(mG 100).q))||false)=a 0;rw[nH];cases a 0 with
 |true=>decide+kernel
 |false=>decide+kernel
end
def agP{σ:St}(hW:WF σ)(hwh:∀k:Nat,k<=100->∀(s:St) (K:V->St->Prop),aC EN 66 [.c (.int .i64 (.ofNat k))] s K=K (.agg [.bool (rn ((Int.ofNat k:Int):Rat)),.str (rs ((Int.ofNat k:Int):Rat)),.str (rd ((Int.ofNat k:Int):Rat))]) s):
  aC EN 29 [] σ λr σ'=>r=.c (.bool true)/\Fr σ σ':=by
 refine aP (DT.o _ _) DT.h ?_
 unfold DT
 dsimp only
 have w1:=hwh 100 jb
 have w2:=hwh 20 jb
 have w3:=hwh 80 jb
 have hFr:=Fr.refl hW
 simp(disch:=try exact jz) only[go_sem,z3,w1,w2]
 refine aC.st (Fr σ) (fr) λhF=>?_
 have hg:rW (Lt (σ.aj+1+1+1+1)) (hset (hset (hset (hset (hset σ.h σ.aj ⟨[.int .i64 (Int.negSucc 0),.int .i64 (.ofNat 2),.bool (rn ((Int.ofNat 100:Int):Rat)),.str (rs ((Int.ofNat 100:Int):Rat)),.str (rd ((Int.ofNat 100:Int):Rat))],none⟩) (σ.aj+1) ⟨[.bool (rn ((Int.ofNat 100:Int):Rat)),.str (rs ((Int.ofNat 100:Int):Rat)),.str (rd ((Int.ofNat 100:Int):Rat)),.sl σ.aj 0 1 (.ex 1),.aO],none⟩) (σ.aj+1+1) ⟨[.aO,.aO],none⟩) (σ.aj+1+1) ⟨[.sl (σ.aj+1) 0 1 (.ex 1),.aO],none⟩) (σ.aj+1+1+1) ⟨[.bool (rn ((Int.ofNat 20:Int):Rat)),.str (rs ((Int.ofNat 20:Int):Rat)),.str (rd ((Int.ofNat 20:Int):Rat))],none⟩) (.sl (σ.aj+1) 0 1 (.ex 1)) .aO (FC Ut):=by
  refine⟨⟨λ_=>.sl σ.aj 0 1 (.ex 1),λ_=>.aO,?_,λi hi=>?_⟩,⟨λ_=>.aO,.inl ⟨rfl,rfl⟩,λi hi=>by cases hi⟩⟩
  .refine bD (n:=1) (e:=5) _ (by simp(disch:=omega) only[ak,aA];rfl) rfl (by show σ.aj+1<σ.aj+1+1+1+1;omega) (λ_=>rfl) jj λj hj=>?_;obtain rfl:j=0:=jb;rfl
  .obtain rfl:i=0:=by have:i<1:=hi;omega
   exact⟨bD (n:=1) (e:=5) _ (by simp(disch:=omega) only[ak,aA];rfl) rfl (by show σ.aj<σ.aj+1+1+1+1;omega) (λ_=>rfl) jj (λ_ _=>rfl),λ_=>.aO,.inl ⟨rfl,rfl⟩,λi hi=>by cases hi⟩
 have hC:aX (Lt (σ.aj+1+1+1+1)) (hset (hset (hset (hset (hset σ.h σ.aj ⟨[.int .i64 (Int.negSucc 0),.int .i64 (.ofNat 2),.bool (rn ((Int.ofNat 100:Int):Rat)),.str (rs ((Int.ofNat 100:Int):Rat)),.str (rd ((Int.ofNat 100:Int):Rat))],none⟩) (σ.aj+1) ⟨[.bool (rn ((Int.ofNat 100:Int):Rat)),.str (rs ((Int.ofNat 100:Int):Rat)),.str (rd ((Int.ofNat 100:Int):Rat)),.sl σ.aj 0 1 (.ex 1),.aO],none⟩) (σ.aj+1+1) ⟨[.aO,.aO],none⟩) (σ.aj+1+1) ⟨[.sl (σ.aj+1) 0 1 (.ex 1),.aO],none⟩) (σ.aj+1+1+1) ⟨[.bool (rn ((Int.ofNat 20:Int):Rat)),.str (rs ((Int.ofNat 20:Int):Rat)),.str (rd ((Int.ofNat 20:Int):Rat))],none⟩) 3 (.sl (σ.aj+1+1+1) 0 1 (.ex 1)) 1 λj=>dY (awK j):=bD (G:=λj=>dY (awK j)) _ (aA _ _ _) rfl (bO _) (λ_=>rfl) jj λ_ _=>rfl
 have q1:(hset (hset (hset (hset (hset σ.h σ.aj ⟨[.int .i64 (Int.negSucc 0),.int .i64 (.ofNat 2),.bool (rn ((Int.ofNat 100:Int):Rat)),.str (rs ((Int.ofNat 100:Int):Rat)),.str (rd ((Int.ofNat 100:Int):Rat))],none⟩) (σ.aj+1) ⟨[.bool (rn ((Int.ofNat 100:Int):Rat)),.str (rs ((Int.ofNat 100:Int):Rat)),.str (rd ((Int.ofNat 100:Int):Rat)),.sl σ.aj 0 1 (.ex 1),.aO],none⟩) (σ.aj+1+1) ⟨[.aO,.aO],none⟩) (σ.aj+1+1) ⟨[.sl (σ.aj+1) 0 1 (.ex 1),.aO],none⟩) (σ.aj+1+1+1) ⟨[.bool (rn ((Int.ofNat 20:Int):Rat)),.str (rs ((Int.ofNat 20:Int):Rat)),.str (rd ((Int.ofNat 20:Int):Rat))],none⟩) (σ.aj+1+1)=some ⟨[.sl (σ.aj+1) 0 1 (.ex 1),.aO],none⟩:=by simp(disch:=omega) only[ak,aA]
 have hM:=aem.mono
 have hT:=ayH
 refine(alL hF.wf aem hg hC).mono ?_
 rintro _ σ2 ⟨d0,cm,G,Dv,Rf,Nt,Su,Re,Fu,a,x,k,rfl,hV,hCl,-,hf2⟩
 have k0:=aX.kn hV.d
 obtain⟨_,_,_,_,_,_,_,_,ea,k1,k2,k3,k4,k5,k6,k7,k8⟩:=hV.c8
 cases ea
 have hF2:=hF.trans hf2
 have hle2:σ.aj+1+1+1+1<=σ2.aj:=hf2.le
 have q12:=hf2.get hF.wf q1
 have V7:=Fr.refl hf2.wf
 simp(disch:=try exact jz) only[go_sem,z3,k0,k1,k2,k3,k4,k5,k6,k7,k8,au q12,q12]
 refine aC.st (Fr σ2) (fr) λhF3=>?_
 have q33:=aA (hset σ2.h σ2.aj ⟨[.aO,.aO,.aO,.aO,.aO,.aO,.aO,.aO,.aO,.int .i64 (.ofNat 0)],none⟩) σ2.aj ⟨[d0,cm,G,Dv,Rf,Nt,Su,Re,Fu,.int .i64 (.ofNat k)],none⟩
 refine(ael hF3.wf aem (hg.fr hF.wf (hf2.trans hF3)) (aX.fr hF.wf (hf2.trans hF3) hC)).mono ?_
 rintro _ σ4 ⟨e0,cm',G',Dv',Rf',Nt',Su',Re',Fu',a',x',k',rfl,hV',hFl,-,hf4⟩
 have j0:=aX.kn hV'.d
 obtain⟨_,_,_,_,_,_,_,_,ea,j1,j2,j3,j4,j5,j6,j7,j8⟩:=hV'.c8
 cases ea
 have ZM:=hF3.trans hf4
 have jB:=hF2.trans ZM
 have oM:σ2.aj+1<=σ4.aj:=hf4.le
 have q34:=hf4.get hF3.wf q33
 have FH:=Fr.refl hf4.wf
 have ha:a 0=false:=by
  have h1:=hCl.f (λ_=>false) (λi hi h=>by rw[show i=0 by omega,hT]at h;exact h) (λ_ _ h=>h) 0 jb;cases e:a 0 with
  |false=>rfl
  |true=>exact absurd (show false=true from h1 e) jj
 have ha':a' 0=true:=hFl.f (λ_=>true) (λi hi _=>by rw[show i=0 by omega,hT]) (λ_ _ h=>h) 0 jb rfl
 have hx:x 0=((Int.ofNat 100:Int):Rat):=by have:=H6.uniq _ hV.g (WU (QL a).1.2.1) 0 jb;rw[this,WV,ha];rfl
 have hx':x' 0=((Int.ofNat 80:Int):Rat):=by have:=H6.uniq _ hV'.g (WU (QL a').1.2.1) 0 jb;rw[this,WV,ha'];rfl
 obtain⟨_,_,_,_,_,_,_,_,ea,v1,-⟩:=hV.s
 cases ea
 obtain⟨_,_,_,_,_,_,_,_,ea,w1',-⟩:=hV'.s
 cases ea
 have v1:jK (Lt σ2.aj) σ2.h cm 1 x:=v1
 have w1':jK (Lt σ4.aj) σ4.h cm' 1 x':=w1'
 have v4:=aX.fr hf2.wf ZM v1
 have lv:=aX.len v4
 have lw:=aX.len w1'
 obtain⟨b5,o5,c5,rfl,-,l5⟩:=aX.at3 v4 (c:=0) jb
 obtain⟨b6,o6,c6,rfl,-,l6⟩:=aX.at3 w1' (c:=0) jb
 rw[hx]at l5
 rw[hx']at l6
 have m5:=hf4.wf.dw l5
 have m6:=hf4.wf.dw l6
 have hd1:decide (Int.ofNat 0=Int.ofNat 0)=true:=rfl
 have hd2:decide (Int.ofNat 1=Int.ofNat 1)=true:=rfl
 have hd3:decide (((Int.ofNat 100:Int):Rat)=((Int.ofNat 100:Int):Rat))=true:=be rfl
 have hd4:decide (((Int.ofNat 80:Int):Rat)=((Int.ofNat 80:Int):Rat))=true:=be rfl
 simp(disch:=try exact jz) only[go_sem,z3,w1,w3,hd1,hd2,hd3,hd4,lv,lw,l5,l6,au q34,q34,k0,k1,k2,k3,k4,k5,k6,k7,k8,j0,j1,j2,j3,j4,j5,j6,j7,j8]
 exact jB.trans (fr)
def agQ{σ:St}(hW:WF σ):aC EN 29 [] σ λr σ'=>r=.c (.bool true)/\Fr σ σ':=
 agP hW λk hk s K=>XM k hk
def alQ{W:World}{nm sv:Nat}{v2 v3 v4 v5:Value}(hnm:nm<=255)(hsv:sv<=65535){n2 n3 n4 n5:Nat}{M:Nat->Nat}{L P D:Nat->Nat->Nat}(h2:HL (St.of W).h 1 (zY W.heap.size v2) n2 λi=>[.int .u16 (.ofNat (M i))])(hM:∀i,i<n2->M i<=65535)
  (h3:HL (St.of W).h 4 (zY W.heap.size v3) n3 λi=>[.int .u16 (.ofNat (L i 0)),.int .u16 (.ofNat (L i 1)),.int .u16 (.ofNat (L i 2)),.int .u16 (.ofNat (L i 3))]) (hL:∀i j,i<n3->L i j<=65535) (hn3:n3<=140737488351232)
  (h4:HL (St.of W).h 3 (zY W.heap.size v4) n4 λi=>[.int .u16 (.ofNat (P i 0)),.int .u16 (.ofNat (P i 1)),.int .u16 (.ofNat (P i 2))]) (hP:∀i j,i<n4->P i j<=65535) (hn4:n4<=140737488351232)
  (h5:HL (St.of W).h 3 (zY W.heap.size v5) n5 λi=>[.int .u16 (.ofNat (D i 0)),.int .u16 (.ofNat (D i 1)),.int .u16 (.ofNat (D i 2))]) (hD:∀i j,i<n5->D i j<=65535) (hn5:n5<=140737488351232):
  Calls Tryz.prog 7 #[.int .u8 (nm:Int),v2,v3,v4,v5,.int .u16 (sv:Int)] W λe w'=>e=.returned (.bool true)/\Below W.heap.size W w':=
 as4 (acj (WF.of W) hnm hsv M L P D h2 hM h3 hL jb h4 hP jb h5 hD jb λs hs=>agQ hs) ⟨rfl,II _ _ h2.kn,II _ _ h3.kn,II _ _ h4.kn,II _ _ h5.kn,rfl,trivial⟩
end Go.Proofs.Xe
namespace Go.Proofs.Xe
open Go Go.RowKit Go.ChangeShapes Go.WideShapes Go.ChangeAt Go.Proofs.Ins Go.Proofs.YtchhojplceoifaaGreatDoor
theorem free_lifted(os:Os)(started:os.Started)(H:Type)(enc:TypeId×Value->H):
  ReturnsInHanded {} Tryz.checked os 7 .any (λw args=>(Rows.defaultcostFreeSpec.pre enc Tryz.prog Tryz.f7 [] false w args/\laidMetH Tryz.prog acy w)/\sizedMet enc Tryz.prog Tryz.f7 (OpenSpec.ofChange Rows.defaultcostFreeSpec) false w args)
   (Rows.defaultcostFreeSpec.post enc Tryz.prog Tryz.f7 false true false false):=by
 refine returnsInHanded_of_change_and (C:=Tryz.checked) (X:=λw _=>laidMetH Tryz.prog acy w) (λ_ _ _ hh h=>h.of_heap hh) own' started (by kernel_rfl) Tryz.func7
  (ChangeSpec.witness_shaped (enc:=enc) (C:=Tryz.checked) (os:=os) (X:=λw _=>laidMetH Tryz.prog acy w) false (World.laidAll Tryz.prog os acy) #[.int .u8 0,.slice none 0 0,.slice none 0 0,.slice none 0 0,.slice none 0 0,.int .u16 0] 8 (World.laidAll_os _ _ _)
   (World.shaped_of_ZipB (by kernel_rfl) (by kernel_rfl)) (by kernel_rfl) (by kernel_rfl) (by kernel_rfl)
   (by rw[MakeChecks.laidMetH_plain _ _ _ (by kernel_rfl)];exact laidMet_laidAll _ (by kernel_rfl) (by kernel_rfl))) ?_
 intro W base args ds gs before hval0 hW hc hsz hL _
 have hval:∀(j:Nat) t v,Tryz.f7.params[j]?=some t->args[j]?=some v->Value.okWide Tryz.prog W .any base t v:=hval0
 have hW':=hW
 obtain⟨p,q,hA0,hV,rfl,_,_⟩:=hW
 have hA:DataW.TrodAll enc Tryz.prog W 0 (λ_=>true) true Tryz.f7.params.toList args.toList ds p:=hA0
 have hsz1:(DataW.weightsEach Tryz.prog (Tryz.f7.params.toList++Rows.defaultcostFreeSpec.plain.varTypes Tryz.prog) (ds++gs)).all (·<=reachBytes)=true:=hsz
 obtain⟨rfl,rfl⟩:=trodVars_none hV
 rw[Tryz.params7]at hsz1 hval hA
 clear hA0 hval0 hsz hc hL hV
 obtain⟨v1,vs1,d1,ds1,p1,q1,e1,rfl,rfl,h1,hA⟩:=trodAll_cons hA
 obtain⟨v2,vs2,d2,ds2,p2,q2,rfl,rfl,rfl,h2,hA⟩:=trodAll_cons hA
 obtain⟨v3,vs3,d3,ds3,p3,q3,rfl,rfl,rfl,h3,hA⟩:=trodAll_cons hA
 obtain⟨v4,vs4,d4,ds4,p4,q4,rfl,rfl,rfl,h4,hA⟩:=trodAll_cons hA
 obtain⟨v5,vs5,d5,ds5,p5,q5,rfl,rfl,rfl,h5,hA⟩:=trodAll_cons hA
 obtain⟨v6,vs6,d6,ds6,p6,q6,rfl,rfl,rfl,h6,hA⟩:=trodAll_cons hA
 obtain⟨rfl,rfl,rfl⟩:=trodAll_nil hA
 obtain rfl:args= #[v1,v2,v3,v4,v5,v6]:=by rw[<-Array.toArray_toList (xs:=args),e1]
 clear hA e1
 obtain⟨D1,rfl,b1⟩:=ayR (hval 0 _ _ rfl rfl) h1
 obtain⟨a2,n2,c2,f2,rfl,o2⟩:=EH Tryz.underlying22 (hval 1 _ _ rfl rfl) h2
 obtain⟨w2,m2,D2,e2,l2,s2,b2⟩:=asK o2 (EF hsz1 (j:=1) rfl rfl)
 obtain rfl:w2=.slice a2 n2 c2:=by simpa using e2.symm
 obtain⟨a3,n3,c3,f3,rfl,o3⟩:=EH Tryz.underlying23 (hval 2 _ _ rfl rfl) h3
 obtain⟨w3,m3,D3,e3,l3,s3,b3⟩:=asL o3 (EF hsz1 (j:=2) rfl rfl)
 obtain rfl:w3=.slice a3 n3 c3:=by simpa using e3.symm
 obtain⟨a4,n4,c4,f4,rfl,o4⟩:=EH Tryz.underlying24 (hval 3 _ _ rfl rfl) h4
 obtain⟨w4,m4,D4,e4,l4,s4,b4⟩:=acS o4 (EF hsz1 (j:=3) rfl rfl)
 obtain rfl:w4=.slice a4 n4 c4:=by simpa using e4.symm
 obtain⟨a5,n5,c5,f5,rfl,o5⟩:=EH Tryz.underlying24 (hval 4 _ _ rfl rfl) h5
 obtain⟨w5,m5,D5,e5,l5,s5,b5⟩:=acS o5 (EF hsz1 (j:=4) rfl rfl)
 obtain rfl:w5=.slice a5 n5 c5:=by simpa using e5.symm
 obtain⟨D6,rfl,b6⟩:=avd (hval 5 _ _ rfl rfl) h6
 exact ag7 rfl rfl rfl (by kernel_rfl) hW' (alQ b1 b6 s2 b2 s3 b3 l3 s4 b4 l4 s5 b5 l5)
end Go.Proofs.Xe
