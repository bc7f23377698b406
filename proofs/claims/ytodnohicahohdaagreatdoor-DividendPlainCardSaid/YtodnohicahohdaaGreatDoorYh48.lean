import Derived.Test.YtodnohicahohdaaGreatDoorYh47
set_option linter.all false
set_option maxRecDepth 100000
set_option maxHeartbeats 8000000
attribute [-go_sem] Go.Proofs.Xe.azd Go.Proofs.Xe.aze Go.Proofs.Xe.azf
namespace Go.Proofs.Xe
open Go.RowKit Go.Proofs.Ins
def SS{W:Rat}{q q':fZ->Rat}{l:fZ}:∀{t:List fZ}{Q:Rat},(∀a∈t,q a=q' a)->Iz W q Q t l=Iz W q' Q t l
 |[],_,_=>rfl
 |a::t,Q,h=>by rw[LM,LM,h a kc,SS λb hb=>h b (by simp[hb])]
def Nj{α:Type}{f g:α->Rat}:∀{l:List α},(∀a∈l,f a=g a)->aK l f=aK l g
 |[],_=>rfl
 |a::l,h=>by show f a+aK l f=g a+aK l g;rw[h a kc,Nj λb hb=>h b (by simp[hb])]
def SV{n:Nat}{g:GL}(hg:Nc n g){x y:Nat->Rat}(h:∀i,i<n->x i=y i)(l:fZ):BQ g x l=BQ g y l:=by unfold BQ;refine Nj λd hd=>SS λa ha=>?_;unfold gq;rw[h a.1 (hg.fM a (cr.mpr ⟨d,hd,ha⟩)).1]
section
variable {n:Nat} {m m' : Nat→Rat} {cl:Nat→List C5} {al:Nat→List fD} {dl:List oM}
def NP.bg{p:Nat->Prop}{h:Tr Bk}{r:V}{x y:Nat->Rat}(hV:NP p h r (dZ n m' cl al dl) x)(hG:jT (dZ n m cl al dl))(hxy:∀i,i<n->x i=y i):NP p h r (dZ n m cl al dl) y:=by
 obtain⟨cm,G,Dv,Rf,Nt,Su,Re,Fu,rfl,v1,v2,v3,v4,v5,v6,v7,v8⟩:=hV;have hn:=iU n m cl al dl;have hn':=iU n m' cl al dl;rw[hn']at v1 v2 v3 v4 v5 v6 v7 v8;rw[Vy (m:=m)]at v2 v3 v4 v5;have ht:∀i,og (ix (dZ n m' cl al dl).e i) (kE (dZ n m' cl al dl).e i)=og (ix (dZ n m cl al dl).e i) (kE (dZ n m cl al dl).e i):=λi=>by unfold og kE;rw[(aa5 (m:=m) (m':=m') i).1]
 have hr:∀l,BQ (bH (dZ n m' cl al dl)) x l=BQ (bH (dZ n m cl al dl)) y l:=λl=>by rw[SG (m:=m)];exact SV hG.Nh (λi hi=>hxy i jb) l
 refine⟨cm,G,Dv,Rf,Nt,Su,Re,Fu,rfl,?_,?_,?_,?_,?_,?_,?_,?_⟩<;>rw[hn]
 .exact aZ.congr v1 λi hi=>by rw[hxy i hi]
 .exact v2.congr λi c hi _=>by unfold XJ;rw[Me (m:=m),hxy i hi]
 .exact v3.congr λi c hi _=>by unfold NM;rw[Me (m:=m),hxy i hi]
 .exact v4.congr λi c hi _=>hr (i,c)
 .exact v5.congr λi c hi _=>by unfold NK gq;rw[hr,SG (m:=m),hxy i hi]
 .exact aZ.congr v6 λi hi=>by unfold suF;rw[ht,hxy i hi]
 .exact aZ.congr v7 λi hi=>by unfold rsF;rw[Me (m:=m),hxy i hi]
 .exact aZ.congr v8 λi hi=>by unfold fuF;rw[ht,hxy i hi]
end
def abh:decide ((0:Int)<0)=false:=rfl
def Nk:decide ((0:Nat)<0)=false:=rfl
def Cj{E:Env}{a:AC}{tm:Tr V}{J:St}{Q:AX->Tr V->St->Prop}(h:bI E a tm J (ajr (λ_ _ _=>False) 0 Q)):bI E (.loop a) tm J Q:=
 aG (λ_ tm' J'=>tm'=tm/\J'=J) 0 ⟨rfl,rfl⟩ λm tm' J' ⟨h1,h2⟩=>by
  subst h1 h2;refine h.mono λe tm J h=>?_;cases e with
  |normal=>obtain⟨_,_,h⟩:=h;exact h.elim
  |_=>exact h
def SX{J:St}(hW:WF J):aB EN 56 [.c .aQ] J λr J'=>r=jN 1/\Fr J J':=by refine aI (xE.o _ _) xE.h ?_;unfold xE;dsimp only;simp(disch:=try exact jz)only[go_sem,abh,Nk];refine Cj ?_;simp(disch:=try exact jz)only[go_sem,abh,Nk,am];exact Fr.refl hW
def aiu{J:St}(hW:WF J):aB EN 57 [.c .aQ,jN 0] J λr J'=>(∃b,r=.aU (.c (.sl b 0 0 (.ex 0))) (.aU (.c (.bool true)) .tnil))/\Fr J J':=by refine aI (vJ.o _ _) vJ.h ?_;unfold vJ;dsimp only;refine WN ?_;refine(SX hW).mono ?_;rintro _ σ1 ⟨rfl,hf⟩;have hFr:=Fr.refl hf.wf;have d1:decide (Int.ofNat 1<=Int.ofNat 0)=false:=rfl;have d2:decide ((4096:Int)<1)=false:=rfl;have d3:decide ((4096:Nat)<1)=false:=rfl;have d4:decide (Int.ofNat 0<0)=false:=rfl;simp(disch:=try exact jz)only[go_sem,abh,Nk,d1,d2,d3,d4];refine Cj ?_;simp(disch:=try exact jz)only[go_sem,abh,Nk];exact⟨⟨_,rfl⟩,fr⟩
def adR{J:St}(hW:WF J){cv:B}(hl:lenV (.c cv)=some (jN 0)):aB EN 142 [.c .aQ,.c cv] J λr J'=>r=.c (.bool true)/\Fr J J':=by refine aI (tY.o _ _) tY.h ?_;unfold tY;dsimp only;simp(disch:=try exact jz)only[go_sem,hl];refine Cj ?_;simp(disch:=try exact jz)only[go_sem,abh,Nk,am];exact Fr.refl hW
section
variable {n:Nat} {m K:Nat→Rat} {cl:Nat→List C5} {al:Nat→List fD} {dl:List oM}
def SY{J:St}(hW:WF J){p:Nat->Prop}{ev dv:B}{g:dV}(hg:jY p J.h ev dv g)(h:jT g):
  aB EN 52 [.agg [ev,dv],.c .aQ] J λr J'=>r=jN 0/\Fr J J':=by
 refine aI (xB.o _ _) xB.h ?_
 unfold xB
 dsimp only
 have hek:=hg.e.kn
 have hdk:=hg.d.kn
 have hFr:=Fr.refl hW
 simp(disch:=try exact jz)only[go_sem,hek,hdk]
 refine aB.st (Fr J) (fr) λhF=>?_
 refine(XR hF.wf (hg.fr hW hF) h.z h.bld (λi hi=>(h.m i hi).1) λd hd=>(h.d d hd).2.1).mono ?_
 rintro _ σ2 ⟨rfl,hf2⟩
 have hF2:=hF.trans hf2
 have JB:=Fr.refl hf2.wf
 have hd0:decide ((0:Int)=Int.ofNat 0)=true:=rfl
 have hd1:decide ((8:Int)<0)=false:=rfl
 have hd2:decide ((8:Nat)<0)=false:=rfl
 simp(disch:=try exact jz)only[go_sem,hd0,hd1,hd2]
 refine Cj ?_
 simp(disch:=try exact jz)only[go_sem,abh,Nk]
 refine aB.st (Fr σ2) (fr) λhF3=>?_
 refine(SX hF3.wf).mono ?_
 rintro _ σ4 ⟨rfl,hf4⟩
 have d2:decide ((4096:Int)<1)=false:=rfl
 have d3:decide ((4096:Nat)<1)=false:=rfl
 simp(disch:=try exact jz)only[go_sem,d2,d3,am]
 exact hF2.trans (hF3.trans hf4)
def aiv{J:St}(hW:WF J)(q:Rat)(hq:Sz q):aB EN 132 [.agg (rK q)] J λr J'=>r=.c (.bool (decide (q<0)))/\Fr J J':=by refine aI (mF.o _ _) mF.h ?_;unfold mF;dsimp only;have h2:=hq.two;simp(disch:=try exact jz)only[go_sem,asT];exact fr
def Du{J:St}(hW:WF J){p p1:Nat->Prop}{ev dv cv:B}{g:dV}(hg:jY p J.h ev dv g)(hn:g.e.length<=1000){K:Nat->Rat}(hC:aZ p1 J.h 3 cv g.e.length λj=>bY (K j))(hK:∀j,Sz (K j))(hK0:∀j,j<g.e.length->0<=K j):
  aB EN 53 [.agg [ev,dv],.c cv] J λr J'=>r=jN 0/\Fr J J':=by
 refine aI (oC.o _ _) oC.h ?_
 unfold oC
 dsimp only
 have hek:=hg.e.kn
 have hdk:=hg.d.kn
 have hel:=hg.e.len
 have ZL:=aZ.len hC
 have hdn:decide (Int.ofNat g.e.length=Int.ofNat g.e.length)=true:=aw rfl
 have hFr:=Fr.refl hW
 simp(disch:=try exact jz)only[go_sem,hek,hdk,hel,ZL,hdn]
 refine aB.st (Fr J) (fr) λhF=>?_
 refine(ZV aiv hF.wf K (aZ.fr hW hF hC) hK hn).mono ?_
 rintro _ σ2 ⟨rfl,hf2⟩
 have hN:=afS hK0
 unfold ald at hN
 cases hb:Ir K g.e.length with
 |true=>rw[hb]at hN;cases hN
 |false=>
  refine WP ?_
  exact hF.trans hf2
def abj(h:Tr Bk)(nx n:Nat)(m K:Nat->Rat)(cl:Nat->List C5)(al:Nat->List fD)(dl:List oM)(ov:B):Prop:=∃a x k,aZ (Lt nx) h 3 ov (iL (dZ n m cl al dl)).length (λj=>bY (IU (dZ n m cl al dl) (ntT (dZ n m cl al dl) x) j))/\RY (n:=n) (g:=bH (dZ n m cl al dl)) (pJ m K a) x/\BEq n (Yr n (dZ n m cl al dl) m K a) a/\zO n (Yr n (dZ n m cl al dl) m K) (λ_=>false) a k
theorem abj.fr{J J':St}(hf:Fr J J'){ov:B}(h:abj J.h J.aj n m K cl al dl ov):abj J'.h J'.aj n m K cl al dl ov:=by obtain⟨a,x,k,h1,h2⟩:=h;exact⟨a,x,k,aZ.keep h1 (λb hb=>hf.old b hb) λb hb=>aE hb hf.le,h2⟩
def axl{m' x:Nat->Rat}:ntT (dZ n m' cl al dl) x=ntT (dZ n m cl al dl) x:=by unfold ntT Ko;rw[iU,iU,SG (m:=m),Vy (m:=m)]
def VA{x y:Nat->Rat}(h:jT (dZ n m cl al dl))(hxy:∀i,i<n->x i=y i):ntT (dZ n m cl al dl) x=ntT (dZ n m cl al dl) y:=by
 unfold ntT Ko;have hn:=iU n m cl al dl;refine fv λi hi=>fv λc _=>?_;have hi:i<n:=by rw[<-hn];exact fi.mp hi
 have hgo:=h.Nh;rw[hn]at hgo;unfold NK gq;show uX _ (x i) c-BQ _ x (i,c)=uX _ (y i) c-BQ _ y (i,c);rw[SV hgo hxy,hxy i hi]
def IV{J:St}(hW:WF J){p p1 p2:Nat->Prop}{ev dv ev2 dv2 cv:B}(h:DG n m K cl al dl)(hg:jY p J.h ev dv (dZ n m cl al dl))(hg2:jY p1 J.h ev2 dv2 (dZ n m cl al dl))(hC:aZ p2 J.h 3 cv n λj=>bY (K j)):
  aB EN 55 [.agg [ev,dv],.agg [ev2,dv2],.c cv] J λr J'=>(∃ov,r=.c ov/\abj J'.h J'.aj n m K cl al dl ov)/\Fr J J':=by
 refine aI (qF.o _ _) qF.h ?_
 unfold qF
 dsimp only
 have hn:=iU n m cl al dl
 have hek:=hg.e.kn
 have hdk:=hg.d.kn
 have aC0:=hg2.e.kn
 have aC1:=hg2.d.kn
 have hck:=aZ.kn hC
 have hFr:=Fr.refl hW
 simp(disch:=try exact jz)only[go_sem,hek,hdk,aC0,aC1,hck]
 refine aB.st (Fr J) (fr) λhF=>?_
 refine(axk hF.wf h (hg2.fr hW hF) (aZ.fr hW hF hC)).mono ?_
 rintro _ σ2 ⟨d0,cm,G,Dv,Rf,Nt,Su,Re,Fu,a,x,k,rfl,hV,hCl,-,hf2⟩
 have hV:=hV.keep (q:=Lt σ2.aj) (λ_ _=>rfl) λ_ h=>h.2
 have k0:=aZ.kn hV.d
 obtain⟨_,_,_,_,_,_,_,_,ea,k1,k2,k3,k4,k5,k6,k7,k8⟩:=hV.c8
 cases ea
 have hF2:=hF.trans hf2
 have hle2:J.aj+1+1<=σ2.aj:=hf2.le
 have q3:=hf2.get hF.wf ((au _ _ _ _ jb).trans (aA _ _ _))
 have JB:=Fr.refl hf2.wf
 simp(disch:=try exact jz)only[go_sem,k0,k1,k2,k3,k4,k5,k6,k7,k8,ay q3,q3,hek,hdk]
 refine aB.st (Fr σ2) (fr) λhF3=>?_
 have DY:=hF2.trans hF3
 obtain⟨Dz,hz⟩:=hV.z.aA3 (h.c a)
 have hVG:=CX (h.c a).z
 have s1:=(hV.fr hF3).s.bg h.g (λ_ _=>rfl)
 obtain⟨_,_,_,_,_,_,_,_,ea,v1,v2,v3,v4,v5,-⟩:=s1
 cases ea
 have hkE:kE (dZ n (pJ m K a) cl al dl).e=kE (dZ n m cl al dl).e:=Vy
 have hgl:bH (dZ n (pJ m K a) cl al dl)=bH (dZ n m cl al dl):=SG
 refine(anB hF3.wf (dZ n m cl al dl) (hg.fr hW DY) h.g.z (ntT (dZ n m cl al dl) x) (aa9 v5) (afR λi hi c hc=>?_) (λd hd j hj=>?_) k1 k2 k3 k4 k6 k7 k8).mono ?_
 .have:=hz.nz i (by rw[iU];rw[hn]at hi;exact hi) c (by rw[hkE];exact hc)
  rw[hgl]at this
  exact this.sz hz.d (by have:=XI;omega)
 .have:=hz.tot hVG d hd j hj
  rw[axl (m:=m)]at this
  exact this
 rintro _ σ4 ⟨ov,rfl,hO,hf4⟩
 have hok:=hO.kn
 simp(disch:=try exact jz)only[go_sem,hok]
 exact⟨⟨_,rfl,a,x,k,hO.hlp (λ_=>rfl) jj (λ_ _=>rfl) λb _ hb=>hb,hV.g,hV.t,hCl⟩,DY.trans hf4⟩
end
def anG{P:Prop}{d:Bool}(h:d=true↔P)(hn:¬P):d=false:=by
 cases d with
 |true=>exact absurd (h.mp rfl) hn
 |false=>rfl
def adS{k n:Nat}(h:k<=n):decide ((Int.ofNat n:Int)<Int.ofNat k)=false:=ap λh2=>by have:=Int.ofNat_lt.mp h2;omega
def arW{J:St}(hW:WF J){T:B}{k:Nat}(hT:lenV (.c T)=some (jN k))(hk:k<=24):
  aB EN 238 [.c T] J λr J'=>r=.c (.bool false)/\Fr J J':=by
 refine aI (qL.o _ _) qL.h ?_
 unfold qL
 dsimp only
 have hd:=adS hk
 simp(disch:=try exact jz)only[go_sem,hT,hd]
 exact Fr.refl hW
def arX{J:St}(hW:WF J){p:Nat->Prop}{v:B}{a:fD}(ha:dQ p J.h v a)(hn:a.length<=24)(hm:∀t,t<a.length->(ix a t).length<=24):
  aB EN 236 [.agg [v]] J λr J'=>r=.c (.bool false)/\Fr J J':=by
 refine aI (uj.o _ _) uj.h ?_
 unfold uj
 dsimp only
 obtain⟨T,h1,h2⟩:=ha
 have hk:=aZ.kn h1
 have hl:=aZ.len h1
 have hd:=adS hn
 have hFr:=Fr.refl hW
 simp(disch:=try exact jz)only[go_sem,hk,hl,hd]
 refine aB.st (Fr J) (fr) λhF=>?_
 refine(adQ (g:=false) (P:=λ_=>false) (X:=λj=>.c (T j)) dJ dR rfl rfl hF.wf (aZ.rd1 (aZ.fr hW hF h1)) jb λj hj s hs=>?_).mono ?_
 .exact arW hs.wf (aZ.len (h2 j hj)) (hm j hj)
 .rintro _ σ2 ⟨⟨d,rfl,hd2⟩,hf2⟩
  obtain rfl:=anG hd2 λ⟨_,_,h⟩=>gN h
  refine WP ?_
  exact hF.trans hf2
def arY{J:St}(hW:WF J){p:Nat->Prop}{c1 c2 c3 C A:B}(k1:c1.kn=true)(k2:c2.kn=true)(k3:c3.kn=true){e:yg}(hC:lT p J.h C e.c)(hA:iO p J.h A e.a)(hl:acP 24 e):
  aB EN 140 [.agg [c1,c2,c3,C,A]] J λr J'=>r=.c (.bool false)/\Fr J J':=by
 refine aI (xK.o _ _) xK.h ?_
 unfold xK
 dsimp only
 obtain⟨T,h1,h2⟩:=hA
 have hck:=aZ.kn hC
 have hcl:=aZ.len hC
 have hk:=aZ.kn h1
 have hd:=adS hl.c
 have hFr:=Fr.refl hW
 simp(disch:=try exact jz)only[go_sem,hck,hcl,hk,hd]
 refine aB.st (Fr J) (fr) λhF=>?_
 refine(adQ (g:=true) (P:=λ_=>false) (X:=λj=>.agg [T j]) jM kJ rfl rfl hF.wf (aZ.rd (aZ.fr hW hF h1)) (by have:=hl.a;omega) λj hj s hs=>?_).mono ?_
 .exact arX hs.wf ((h2 j hj).fr hW (hF.trans hs)) (hl.t j hj) (λt ht=>hl.p j t hj ht)
 .rintro _ σ2 ⟨⟨d,rfl,hd2⟩,hf2⟩
  obtain rfl:=anG hd2 λ⟨_,_,h⟩=>gN h
  refine WP ?_
  exact hF.trans hf2
section
variable {n:Nat} {m K:Nat→Rat} {cl:Nat→List C5} {al:Nat→List fD} {dl:List oM}
def arZ{J:St}(hW:WF J){p:Nat->Prop}{ev dv:B}(h:DG n m K cl al dl)(hg:jY p J.h ev dv (dZ n m cl al dl)):
  aB EN 54 [.agg [ev,dv],.c .aQ] J λr J'=>(∃ov pI,r=.aU (.agg [ov,pI]) (.aU (jN 0) .tnil)/\jY (λ_=>True) J'.h ov pI (dZ n m cl al dl))/\Fr J J':=by
 refine aI (xC.o _ _) xC.h ?_
 unfold xC
 dsimp only
 have hn:=iU n m cl al dl
 have hn4:=h.n4
 have hek:=hg.e.kn
 have hdk:=hg.d.kn
 have hFr:=Fr.refl hW
 simp(disch:=try exact jz)only[go_sem,hek,hdk]
 refine aB.st (Fr J) (fr) λhF=>?_
 refine(Xd hF.wf _ (hg.fr hW hF) h.s (h.l.up jj)).mono ?_
 rintro _ σ2 ⟨⟨ov,pI,rfl,hc⟩,hf2⟩
 have hF2:=hF.trans hf2
 have hle2:J.aj+1+1<=σ2.aj:=hf2.le
 have q4:=hf2.get hF.wf (aA _ _ _)
 have hg2:=h.grp hc
 have ok1:=hg2.e.kn
 have ok2:=hg2.d.kn
 have JB:=Fr.refl hf2.wf
 simp(disch:=try exact jz)only[go_sem,ok1,ok2]
 refine Cj ?_
 simp(disch:=try exact jz)only[go_sem,abh,Nk,ok1,ok2]
 refine aB.st (Fr σ2) (fr) λhF3=>?_
 have hg3:=hg2.fr hf2.wf hF3
 have q6:=aA (hset σ2.h σ2.aj ⟨[.aQ,.aQ],none⟩) σ2.aj ⟨[ov,pI],none⟩
 obtain⟨C,A,e1,e2⟩:=hg3.e
 refine(adQ (g:=true) (P:=λ_=>false) mG nY rfl rfl hF3.wf (aZ.rd e1) (by rw[hn];omega) λj hj s hs=>?_).mono ?_
 .have hle:=h.l.e j hj
  exact arY hs.wf rfl rfl rfl (aZ.fr hF3.wf hs (e2 j hj).1) ((e2 j hj).2.fr hF3.wf hs) (hle.up jj)
 .rintro _ σ4 ⟨⟨d,rfl,hd2⟩,hf4⟩
  obtain rfl:=anG hd2 λ⟨_,_,h⟩=>gN h
  have abf:=hF3.trans hf4
  have q44:=abf.get hf2.wf q4
  have q64:=hf4.get hF3.wf q6
  have b4:=hf4.wf.lt q44
  have iK:=hF2.trans abf
  simp(disch:=try exact jz)only[go_sem,ay q64,q64,ok1,ok2,aJ q44]
  exact⟨⟨_,_,rfl,h.grp (hc.mono (λb h1 h2=>by have h1:J.aj+1+1<=b:=h1;exact(au _ _ _ _ jb).trans (abf.old b h2)) jp jp)⟩,fr⟩
def abk{J:St}(hW:WF J){p:Nat->Prop}{ev dv cv:B}(h:DG n m K cl al dl)(hg:jY p J.h ev dv (dZ n m cl al dl))(hl:lenV (.c cv)=some (jN 0))(hk:cv.kn=true):
  aB EN 58 [.agg [ev,dv],.c .aQ,.c cv] J λr J'=>(∃ov pI,r=.aU (.agg [ov,pI]) (.aU (jN 0) .tnil)/\jY (λ_=>True) J'.h ov pI (dZ n m cl al dl))/\Fr J J':=by
 refine aI (xG.o _ _) xG.h ?_
 unfold xG
 dsimp only
 have hek:=hg.e.kn
 have hdk:=hg.d.kn
 have hFr:=Fr.refl hW
 simp(disch:=try exact jz)only[go_sem,hek,hdk]
 refine aB.st (Fr J) (fr) λhF=>?_
 have p3:=(au (hset J.h J.aj ⟨[ev,dv],none⟩) (J.aj+1) J.aj ⟨[.aQ,.aQ],none⟩ jb).trans (aA _ _ _)
 have p6:=aA (hset J.h J.aj ⟨[ev,dv],none⟩) (J.aj+1) ⟨[.aQ,.aQ],none⟩
 refine(SY hF.wf (hg.fr hW hF) h.g).mono ?_
 rintro _ σ2 ⟨rfl,hf2⟩
 have hF2:=hF.trans hf2
 have q3:=hf2.get hF.wf p3
 have q6:=hf2.get hF.wf p6
 have hd0:decide ((0:Int)=Int.ofNat 0)=true:=rfl
 simp(disch:=try exact jz)only[go_sem,hl,hd0]
 refine(adR hf2.wf hl).mono ?_
 rintro _ σ3 ⟨rfl,hf3⟩
 have hF3:=hF2.trans hf3
 have q3:=hf3.get hf2.wf q3
 have q6:=hf3.get hf2.wf q6
 simp(disch:=try exact jz)only[go_sem,ay q3,q3,hek,hdk]
 refine(Xf hf3.wf _ (hg.fr hW hF3) h.s (h.l.up jj)).mono ?_
 rintro _ σ4 ⟨⟨ov,pI,rfl,hc⟩,hf4⟩
 have iK:=hF3.trans hf4
 have q6:=hf4.get hf3.wf q6
 have hg4:=h.grp hc
 have ok1:=hg4.e.kn
 have ok2:=hg4.d.kn
 have ET:=Fr.refl hf4.wf
 have b6:=hf4.wf.lt q6
 have hle3:J.aj+1+1<=σ3.aj:=ar hf2.le hf3.le
 have qM:=hf4.le
 simp(disch:=try exact jz)only[go_sem,ok1,ok2]
 refine Cj ?_
 simp(disch:=try exact jz)only[go_sem,abh,Nk,ok1,ok2,q6,aJ q6]
 exact⟨⟨_,_,rfl,h.grp (hc.mono (λb h1 h2=>by simp(disch:=omega) only[au]) jp jp)⟩,fr⟩
def ar0{J:St}(hW:WF J){p p2:Nat->Prop}{ev dv cv:B}(h:DG n m K cl al dl)(hg:jY p J.h ev dv (dZ n m cl al dl))(hC:aZ p2 J.h 3 cv n λj=>bY (K j)):
  aB EN 19 [.agg [ev,dv],.c cv,.c .aQ] J λr J'=>(∃ov,r=.aU (.c ov) (.aU (jN 0) .tnil)/\abj J'.h J'.aj n m K cl al dl ov)/\Fr J J':=by
 refine aI (xA.o _ _) xA.h ?_
 unfold xA
 dsimp only
 have hn:=iU n m cl al dl
 have hn4:=h.n4
 have hek:=hg.e.kn
 have hdk:=hg.d.kn
 have hck:=aZ.kn hC
 have hK:∀j,Sz (K j):=λj=>(h.k j).mono (by unfold szK;omega)
 have hFr:=Fr.refl hW
 have hd0:decide ((0:Int)=Int.ofNat 0)=true:=rfl
 simp(disch:=try exact jz)only[go_sem,hek,hdk]
 refine aB.st (Fr J) (fr) λhF=>?_
 refine(SY hF.wf (hg.fr hW hF) h.g).mono ?_
 rintro _ σ2 ⟨rfl,hf2⟩
 have hF2:=hF.trans hf2
 have q3:=hf2.get hF.wf (aA _ _ _)
 simp(disch:=try exact jz)only[go_sem,hd0,ay q3,q3,hek,hdk,hck]
 refine(Du hf2.wf (hg.fr hW hF2) (by rw[hn];omega) (by rw[hn];exact aZ.fr hW hF2 hC) hK λj _=>h.k0 j).mono ?_
 rintro _ σ3 ⟨rfl,hf3⟩
 have hF3:=hF2.trans hf3
 have q3:=hf3.get hf2.wf q3
 simp(disch:=try exact jz)only[go_sem,hd0,ay q3,q3,hek,hdk,hck]
 refine(arZ hf3.wf h (hg.fr hW hF3)).mono ?_
 rintro _ σ4 ⟨⟨ov,pI,rfl,hg4⟩,hf4⟩
 have iK:=hF3.trans hf4
 have q3:=hf4.get hf3.wf q3
 have ok1:=hg4.e.kn
 have ok2:=hg4.d.kn
 have ET:=Fr.refl hf4.wf
 have b3:=hf4.wf.lt q3
 simp(disch:=try exact jz)only[go_sem,hd0,ay q3,q3,hek,hdk,hck,ok1,ok2]
 refine aB.st (Fr σ4) (fr) λeX=>?_
 refine(IV eX.wf h (hg.fr hW (iK.trans eX)) (hg4.fr hf4.wf eX) (aZ.fr hW (iK.trans eX) hC)).mono ?_
 rintro _ σ6 ⟨⟨ov,rfl,hR⟩,gX⟩
 have hok:ov.kn=true:=by obtain⟨_,_,_,h1,-⟩:=hR;exact aZ.kn h1
 simp(disch:=try exact jz)only[go_sem,hok]
 exact⟨⟨_,rfl,hR⟩,iK.trans (eX.trans gX)⟩
def anH{J:St}(hW:WF J){p p2:Nat->Prop}{ev dv cv:B}(h:DG n m K cl al dl)(hg:jY p J.h ev dv (dZ n m cl al dl))(hC:aZ p2 J.h 3 cv n λj=>bY (K j)):
  aB EN 21 [.agg [ev,dv],.c cv,.c .aQ,.c .aQ] J λr J'=>(∃ov,r=.aU (.c ov) (.aU (jN 0) .tnil)/\abj J'.h J'.aj n m K cl al dl ov)/\Fr J J':=by
 refine aI (vH.o _ _) vH.h ?_
 unfold vH
 dsimp only
 have hn:=iU n m cl al dl
 have hn4:=h.n4
 have hek:=hg.e.kn
 have hdk:=hg.d.kn
 have hck:=aZ.kn hC
 have hK:∀j,Sz (K j):=λj=>(h.k j).mono (by unfold szK;omega)
 have hFr:=Fr.refl hW
 have hd0:decide ((0:Int)=Int.ofNat 0)=true:=rfl
 simp(disch:=try exact jz)only[go_sem,hek,hdk]
 refine aB.st (Fr J) (fr) λhF=>?_
 refine(abk hF.wf h (hg.fr hW hF) rfl rfl).mono ?_
 rintro _ σ2 ⟨⟨ov,pI,rfl,hg2⟩,hf2⟩
 have hF2:=hF.trans hf2
 have hle2:J.aj+1<=σ2.aj:=hf2.le
 have q3:=hf2.get hF.wf (aA _ _ _)
 have ok1:=hg2.e.kn
 have ok2:=hg2.d.kn
 have JB:=Fr.refl hf2.wf
 have b3:=hf2.wf.lt q3
 simp(disch:=try exact jz)only[go_sem,hd0,ay q3,q3,hek,hdk,hck,ok1,ok2]
 refine aB.st (Fr σ2) (fr) λhF3=>?_
 have DY:=hF2.trans hF3
 have q33:=hF3.get hf2.wf q3
 have q10:=aA (hset σ2.h σ2.aj ⟨[.aQ,.aQ],none⟩) σ2.aj ⟨[ov,pI],none⟩
 refine(Du hF3.wf (hg.fr hW DY) (by rw[hn];omega) (by rw[hn];exact aZ.fr hW DY hC) hK λj _=>h.k0 j).mono ?_
 rintro _ σ4 ⟨rfl,hf4⟩
 have iK:=DY.trans hf4
 have q3:=hf4.get hF3.wf q33
 have q10:=hf4.get hF3.wf q10
 simp(disch:=try exact jz)only[go_sem,hd0,ay q3,q3,ay q10,q10,hek,hdk,hck,ok1,ok2]
 refine(IV hf4.wf h (hg.fr hW iK) (hg2.fr hf2.wf (hF3.trans hf4)) (aZ.fr hW iK hC)).mono ?_
 rintro _ σ6 ⟨⟨ov,rfl,hR⟩,gX⟩
 have hok:ov.kn=true:=by obtain⟨_,_,_,h1,-⟩:=hR;exact aZ.kn h1
 simp(disch:=try exact jz)only[go_sem,hok]
 exact⟨⟨_,rfl,hR⟩,iK.trans gX⟩
def anI{J:St}(hW:WF J){p p2:Nat->Prop}{ev dv cv:B}(h:DG n m K cl al dl)(hg:jY p J.h ev dv (dZ n m cl al dl))(hC:aZ p2 J.h 3 cv n λj=>bY (K j)):
  aB EN 20 [.agg [ev,dv],.c cv,.c .aQ] J λr J'=>(∃ov,r=.aU (.c ov) (.aU (jN 0) .tnil)/\abj J'.h J'.aj n m K cl al dl ov)/\Fr J J':=by
 refine aI (vG.o _ _) vG.h ?_
 unfold vG
 dsimp only
 have hn:=iU n m cl al dl
 have hn4:=h.n4
 have hek:=hg.e.kn
 have hdk:=hg.d.kn
 have hck:=aZ.kn hC
 have hK:∀j,Sz (K j):=λj=>(h.k j).mono (by unfold szK;omega)
 have hFr:=Fr.refl hW
 have hd0:decide ((0:Int)=Int.ofNat 0)=true:=rfl
 simp(disch:=try exact jz)only[go_sem,hek,hdk]
 refine aB.st (Fr J) (fr) λhF=>?_
 refine(SY hF.wf (hg.fr hW hF) h.g).mono ?_
 rintro _ σ2 ⟨rfl,hf2⟩
 have hF2:=hF.trans hf2
 have q3:=hf2.get hF.wf (aA _ _ _)
 simp(disch:=try exact jz)only[go_sem,hd0,ay q3,q3,hek,hdk,hck]
 refine(Du hf2.wf (hg.fr hW hF2) (by rw[hn];omega) (by rw[hn];exact aZ.fr hW hF2 hC) hK λj _=>h.k0 j).mono ?_
 rintro _ σ3 ⟨rfl,hf3⟩
 have hF3:=hF2.trans hf3
 have q3:=hf3.get hf2.wf q3
 simp(disch:=try exact jz)only[go_sem,hd0]
 refine(SX hf3.wf).mono ?_
 rintro _ σ4 ⟨rfl,hf4⟩
 have iK:=hF3.trans hf4
 have q3:=hf4.get hf3.wf q3
 refine WP ?_
 refine aG (λq tm J'=>r8 tm 1=.c cv/\r8 tm 2=.c .aQ/\r8 tm 3=.c (.ptr J.aj 0)/\r8 tm 31=jN 1/\J'.h J.aj=some ⟨[ev,dv],none⟩/\Fr J J'/\(q=1/\r8 tm 32=jN 0\/q=0/\r8 tm 32=jN 1/\∃ov,r8 tm 10=.c ov/\abj J'.h J'.aj n m K cl al dl ov)) 1 ?_ ?_
 .refine WP ?_
  exact⟨q3,iK,.inl trivial⟩
 .rintro q tm J' ⟨t1,t2,t3,t31,q3,hf,hcs⟩
  rcases hcs with⟨rfl,t32⟩|⟨rfl,t32,ov,t10,hR⟩
  .have d1:decide ((0:Int)<1)=true:=rfl
   have d2:decide ((0:Nat)<1)=true:=rfl
   simp(disch:=try exact jz)only[go_sem,W4,d1,d2]
   refine(aiu hf.wf).mono ?_
   rintro _ σ5 ⟨⟨cb,rfl⟩,hf5⟩
   have eX:=hf.trans hf5
   have q3:=hf5.get hf.wf q3
   simp(disch:=try exact jz)only[go_sem,W4,ay q3,q3,hek,hdk]
   refine(abk hf5.wf h (hg.fr hW eX) rfl rfl).mono ?_
   rintro _ σ6 ⟨⟨ov,pI,rfl,Yq⟩,gX⟩
   have jO:=eX.trans gX
   have q3:=gX.get hf5.wf q3
   have ok1:=Yq.e.kn
   have ok2:=Yq.d.kn
   have az9:=Fr.refl gX.wf
   have b3:=gX.wf.lt q3
   simp(disch:=try exact jz)only[go_sem,W4,ay q3,q3,hek,hdk,hck,ok1,ok2]
   refine aB.st (Fr σ6) (fr) λpX=>?_
   have axn:=jO.trans pX
   have q3:=pX.get gX.wf q3
   refine(IV pX.wf h (hg.fr hW axn) (Yq.fr gX.wf pX) (aZ.fr hW axn hC)).mono ?_
   rintro _ σ8 ⟨⟨ov,rfl,hR⟩,uZ⟩
   have q3:=uZ.get pX.wf q3
   refine W0 ?_
   exact⟨0,jb,q3,axn.trans uZ,.inr ⟨rfl,ov,rfl,hR⟩⟩
  .have d1:decide ((1:Int)<1)=false:=rfl
   have d2:decide ((1:Nat)<1)=false:=rfl
   simp(disch:=try exact jz)only[go_sem,W4,d1,d2]
   exact⟨⟨_,rfl,hR⟩,hf⟩
end
def Y7:amt 2=0:=by rfl
def DG.of{σ0 J:St}(hW:WF J){ev dv:B}{n eb:Nat}{m K:Nat->Rat}{cl:Nat->List C5}{bs:Nat->Nat}{A:Nat->B}{al:Nat->List fD}{dl:List oM}{lo hi:Nat}(ho:mX J.h dv n eb m cl bs A al dl lo hi)(hB:BG n m cl al dl)(hb:Built σ0 J ev dv (dZ n m cl al dl))(hK:∀j,∃u,K j=amt u):DG n m K cl al dl:=by
 have hc:∀a:Nat->Bool,jT (dZ n (pJ m K a) cl al dl):=λa=>hB.Cm.anq λi hi=>by
  obtain⟨v,hv⟩:=hB.mm i hi;obtain⟨u,hu⟩:=hK i;unfold pJ;cases a i with
  |true=>rw[ab rfl,hv,hu];exact ait v u
  |false=>
   rw[hv]
   exact⟨(sD v).mono jj,(wJ v).c60⟩
 refine⟨hB.n4,hB.Cm,λ_=>hB.chg,hb.s,hb.l,hb.z,hc,λj=>?_,λj=>?_,λa=>axd hW ho (hc a)⟩
 .obtain⟨u,hu⟩:=hK j;rw[hu];exact(sD u).mono jj
 .obtain⟨u,hu⟩:=hK j;rw[hu];exact(wJ u).2.1
def abl{J:St}(hW:WF J){nm Fg nl np nd nk:Nat}(hnm:nm<=255){cv lv pv dv kv:B}(M:Nat->Nat)(L P D:Nat->Nat->Nat)(hcv:HL J.h 1 cv Fg λi=>[.int .u16 (.ofNat (M i))])(hM:∀i,i<Fg->M i<=65535)
  (hlv:HL J.h 4 lv nl λi=>[.int .u16 (.ofNat (L i 0)),.int .u16 (.ofNat (L i 1)),.int .u16 (.ofNat (L i 2)),.int .u16 (.ofNat (L i 3))]) (hL:∀i j,i<nl->L i j<=65535) (hnl:nl<=9223372036854775806)
  (hpv:HL J.h 3 pv np λi=>[.int .u16 (.ofNat (P i 0)),.int .u16 (.ofNat (P i 1)),.int .u16 (.ofNat (P i 2))]) (hP:∀i j,i<np->P i j<=65535) (hnp:np<=9223372036854775806)
  (hdv:HL J.h 3 dv nd λi=>[.int .u16 (.ofNat (D i 0)),.int .u16 (.ofNat (D i 1)),.int .u16 (.ofNat (D i 2))]) (hD:∀i j,i<nd->D i j<=65535) (hnd:nd<=9223372036854775806) (Z:Nat->Nat) (hkv:HL J.h 1 kv nk λi=>[.int .u16 (.ofNat (Z i))]) (hZ:∀i,i<nk->Z i<=65535)
  (haw:∀s:St,WF s->aB EN 22 [] s λr s'=>r=.c (.bool true)/\Fr s s'):
  aB EN 6 [.c (.int .u8 (.ofNat nm)),.c cv,.c lv,.c pv,.c dv,.c kv] J λr _=>r=.c (.bool true):=by
 refine aI (qE.o _ _) qE.h ?_
 unfold qE
 dsimp only
 have hkk:=hkv.kn
 refine WN ?_
 refine(W9 hW hnm M L P D hcv hM hlv hL hnl hpv hP hnp hdv hD hnd).mono ?_
 rintro _ σ1 ⟨eb,pI,m,cl,bs,A,al,dl,rfl,hI⟩
 have hs1:1<=1+nm%4:=jb
 have hs4:1+nm%4<=4:=jb
 have hB:=hI.bg jb hs4
 have hb:=hI.g.built hs4 (show J.aj<=J.aj+1+1 by omega) jp hI.m (λi hi=>⟨(hI.c i hi).1,λk hk=>((hI.c i hi).2 k hk).2.2⟩) hI.a hI.d hI.fr
 have ho:=hI.g
 have hF1:=hI.fr
 generalize 1+nm%4=n at*
 have hg1:=hb.hg
 have hn:=iU n m cl al dl
 have hek:(B.sl eb 0 n .opn).kn=true:=rfl
 have hdk:=hg1.d.kn
 have ac9:=Fr.refl hF1.wf
 simp(disch:=try exact jz)only[go_sem,hek,hdk,hkk]
 refine aB.st (Fr σ1) (fr) λhF=>?_
 have q1:=aA (hset σ1.h σ1.aj ⟨[.aQ,.aQ],none⟩) σ1.aj ⟨[.sl eb 0 n .opn,pI],none⟩
 refine(aqw hF.wf (dZ n m cl al dl) (hg1.fr hF1.wf hF) jb Z (hkv.fr hW (hF1.trans hF)) hZ).mono ?_
 rintro _ σ2 ⟨rv,rfl,hO,hf2⟩
 rw[hn]at hO
 have hrk:=hO.kn
 have hC:aZ (λb=>σ1.aj+1<=b/\b<σ2.aj) σ2.h 3 rv n λj=>bY (qY Z nk j):=fJ.hlp hO (λ_=>rfl) jj (λ_ _=>rfl) λb h1 h=>⟨h1,h⟩
 have hF2:=hF.trans hf2
 have q2:=hf2.get hF.wf q1
 have hKa:∀j,∃u,qY Z nk j=amt u:=λj=>by
  unfold qY;split
  .exact⟨_,rfl⟩
  .exact⟨2,Y7.symm⟩
 have h:=DG.of (K:=qY Z nk) hF1.wf ho hB hb hKa
 simp(disch:=try exact jz)only[go_sem,ay q2,q2,hek,hdk,hrk]
 refine(ar0 hf2.wf h (hg1.fr hF1.wf hF2) hC).mono ?_
 rintro _ σ3 ⟨⟨av,rfl,hR1⟩,hf3⟩
 have q3:=hf3.get hf2.wf q2
 simp(disch:=try exact jz)only[go_sem,ay q3,q3,hek,hdk,hrk]
 refine(anI hf3.wf h (hg1.fr hF1.wf (hF2.trans hf3)) (aZ.fr hf2.wf hf3 hC)).mono ?_
 rintro _ σ4 ⟨⟨bv,rfl,hR2⟩,hf4⟩
 have q4:=hf4.get hf3.wf q3
 have abf:=hf3.trans hf4
 simp(disch:=try exact jz)only[go_sem,ay q4,q4,hek,hdk,hrk]
 refine(anH hf4.wf h (hg1.fr hF1.wf (hF2.trans abf)) (aZ.fr hf2.wf abf hC)).mono ?_
 rintro _ σ5 ⟨⟨xv,rfl,hR3⟩,hf5⟩
 refine WN ?_
 refine(haw _ hf5.wf).mono ?_
 rintro _ σ6 ⟨rfl,gX⟩
 have hR1:=((hR1.fr hf4).fr hf5).fr gX
 have hR2:=(hR2.fr hf5).fr gX
 have hR3:=hR3.fr gX
 obtain⟨a1,x1,k1,l1,g1,t1',c1⟩:=hR1
 obtain⟨a2,x2,k2,l2,g2,t2',c2⟩:=hR2
 obtain⟨a3,x3,k3,l3,g3,t3',c3⟩:=hR3
 rw[<-VA h.g (Vz h g1 t1' c1 g2 t2' c2)]at l2
 rw[<-VA h.g (Vz h g1 t1' c1 g3 t3' c3)]at l3
 have hRl:(iL (dZ n m cl al dl)).length<=1000:=by have hV:=CX h.g.z;have h9:(iL (dZ n m cl al dl)).length<=192+(dZ n m cl al dl).d.length:=Ot hV (dZ n m cl al dl).d.length;have:=h.l.d;omega
 have ak:=aZ.kn l1
 have bk:=aZ.kn l2
 have xk:=aZ.kn l3
 have hd1:decide (Int.ofNat 0=Int.ofNat 0)=true:=rfl
 simp(disch:=try exact jz)only[go_sem,hd1,ak,bk,xk]
 refine(SQ gX.wf l1 l2 hRl λ_ _=>rfl).mono ?_
 rintro _ σ7 ⟨rfl,vg⟩
 simp(disch:=try exact jz)only[go_sem,ak,bk,xk]
 refine(SQ vg.wf (aZ.fr gX.wf vg l1) (aZ.fr gX.wf vg l3) hRl λ_ _=>rfl).mono ?_
 rintro _ σ8 ⟨rfl,uZ⟩
 simp(disch:=try exact jz)only[go_sem,am]
def fBl{α:Sort _}(b:Bool)(f:Bool->α):α:=match b with|true=>f true|false=>f false
def axo{α:Sort _}(b:Bool)(f:Bool->α):fBl b f=f b:=by cases b<;>rfl
def rv(q:Rat):Value:=.agg #[.bool (rn q),.string (rs q),.string (rd q)]
def rvB(q:Rat)(b:Bool):Value:=.tuple #[.agg #[.bool (rn q),.string (rs q),.string (rd q)],.bool b]
def axp{n:Bool}{s d:ByteArray}(h:MC n s d):rv (rq n s d)=.agg #[.bool n,.string s,.string d]:=by obtain⟨e1,e2,e3⟩:=rG h;unfold rv;rw[e1,e2,e3]
def aBd{n:Bool}{x y:Nat}(hx:0<x)(hy:0<y):rv (Ins.fr n x y)=.agg #[.bool n,.string (bn (x/Nat.gcd x y)),.string (if y/Nat.gcd x y=1 then⟨#[]⟩else bn (y/Nat.gcd x y))]:=by obtain⟨e1,e2,e3⟩:=Ug (n:=n) hx hy;unfold rv;rw[e1,e2,e3]
def dD(d:Nat):Nat:=bif Nat.beq d 0 then 1 else d
def sm(n:Nat):Bool:=Nat.ble (Nat.log2 n) 1990
def OW(n:Bool)(s d:Nat):Bool:=
 sm s&&(sm d&&(bif Nat.beq s 0 then !n&&Nat.beq d 0 else Nat.beq d 0||(!Nat.beq d 1&&Nat.beq (Nat.gcd s d) 1)))
def Ud{n k:Nat}(h:Nat.log2 n+1<=8*k):n<256^k:=by have h2:n<2^(Nat.log2 n+1):=Nat.lt_log2_self;have h3:2^(Nat.log2 n+1)<=2^(8*k):=bN jb h;have h4:(2:Nat)^(8*k)=256^k:=Nat.pow_mul 2 8 k;exact aE h2 (ar h3 (gn h4))
def aBe{n:Nat}(h:sm n=true):n<256^250:=by have h1:Nat.log2 n<=1990:=ax h;exact Ud jb
def Az{n:Nat}(h:sm n=true):(bn n).size<=250:=mZ (aBe h)
def FW{a b:Nat}:Nat.beq a b=true↔a=b:=⟨aq,λh=>by subst h;simp⟩
def IW(d:Nat):0<dD d:=by unfold dD;rw[pR];split<;>omega
def xg{n:Bool}{s d:Nat}(h:OW n s d=true):MC n (bn s) (bn d)/\(bn s).size<=250/\(bn d).size<=250/\(s=0->n=false):=by
 unfold OW at h;simp only[af]at h;obtain⟨h1,h2,h3⟩:=h;rw[pR]at h3;refine⟨⟨by rw[dS],by rw[dS],λh0=>?_,?_⟩,Az h1,Az h2,λh0=>?_⟩
 .rw[dS]at h0;rw[ab h0]at h3;simp only[af,eC]at h3;exact⟨h3.1,by rw[dS];exact FW.mp h3.2⟩
 .rw[dS,dS];split at h3
  .simp only[af]at h3;exact .inl (FW.mp h3.2)
  .simp only[Bool.or_eq_true,af,eC]at h3;rcases h3 with h3|⟨h3,h4⟩
   .exact .inl (FW.mp h3)
   .exact .inr ⟨λe=>(by rw[FW.mpr e]at h3;cases h3),FW.mp h4⟩
 .rw[ab h0]at h3;simp only[af,eC]at h3;exact h3.1
def Kt{n:Bool}{s d:Nat}(h:OW n s d=true):rn (rq n (bn s) (bn d))=n/\nm (rq n (bn s) (bn d))=s/\(rq n (bn s) (bn d)).den=dD d/\rs (rq n (bn s) (bn d))=bn s/\rd (rq n (bn s) (bn d))=bn d:=by
 obtain⟨hv,-⟩:=xg h;obtain⟨e1,e2⟩:=I9 hv;obtain⟨f1,f2,f3⟩:=rG hv;refine⟨f1,?_,?_,f2,f3⟩
 .unfold nm;rw[e1,ni,dS]
 .rw[e2];unfold dn dD;rw[dS,pR]
def axq{n:Bool}{s d:Nat}(h:OW n s d=true):rv (rq n (bn s) (bn d))=.agg #[.bool n,.string (bn s),.string (bn d)]:=axp (xg h).1
def zeroV:V:=.agg [.bool false,.nat 0,.nat 0]
def enc(n:Bool)(x y:Nat):V:=
 bif Nat.beq x 0 then zeroV else fBl n λn=>fN (Nat.gcd x y) λg=>fN (x/g) λp=>fN (y/g) λq=>bif Nat.beq q 1 then .agg [.bool n,.nat p,.nat 0]else .agg [.bool n,.nat p,.nat q]
def Yg(φ:Ph):RV φ zeroV (rv 0):=⟨_,rfl,rfl,rfl,rfl,trivial⟩
def FX{n:Bool}{x y:Nat}(hy:0<y)(φ:Ph):RV φ (enc n x y) (rv (Ins.fr n x y)):=by
 unfold enc;rw[pR];by_cases hx:x=0
 .rw[ab hx,hx,VO];exact Yg φ
 .rw[ae hx,axo,jr,jr,jr,pR,aBd jb hy];split
  .exact⟨_,rfl,rfl,rfl,rfl,trivial⟩
  .exact⟨_,rfl,rfl,rfl,rfl,trivial⟩
def ar1(n1:Bool)(s1 d1:Nat)(n2:Bool)(s2 d2:Nat):V:=
 fN (s1*dD d2) λX=>fN (s2*dD d1) λY=>fN (dD d1*dD d2) λZ=>
  bif n1==n2 then enc n1 (X+Y) Z else bif Nat.ble Y X then enc n1 (X-Y) Z else enc n2 (Y-X) Z
def afT{n1 n2:Bool}{s1 d1 s2 d2:Nat}(h1:OW n1 s1 d1=true)(h2:OW n2 s2 d2=true)(φ:Ph):RV φ (ar1 n1 s1 d1 n2 s2 d2) (rv (rq n1 (bn s1) (bn d1)+rq n2 (bn s2) (bn d2))):=by
 obtain⟨a1,a2,a3,-⟩:=Kt h1;obtain⟨b1,b2,b3,-⟩:=Kt h2;have hZ:0<dD d1*dD d2:=bR (IW _) (IW _);rw[VT,a1,a2,a3,b1,b2,b3];unfold ar1;rw[jr,jr,jr];by_cases hn:n1=n2
 .subst hn;rw[CB];simp only[beq_self_eq_true,bB];exact FX hZ φ
 .rw[show(n1==n2)=false from by simpa using hn,dT];cases hb:Nat.ble (s2*dD d1) (s1*dD d2)with
  |true=>
   rw[pO hn (ax hb),bB]
   exact FX hZ φ
  |false=>
   have hlt:¬s2*dD d1<=s1*dD d2:=λh=>by rw[di h]at hb;cases hb
   rw[Int.add_comm,pO (λe=>hn e.symm) jb,dT]
   exact FX hZ φ
def axr(n1:Bool)(s1 d1:Nat)(n2:Bool)(s2 d2:Nat):V:=fN (s1*s2) λX=>fN (dD d1*dD d2) λZ=>enc (n1 !=n2) X Z
def ar2{n1 n2:Bool}{s1 d1 s2 d2:Nat}(h1:OW n1 s1 d1=true)(h2:OW n2 s2 d2=true)(φ:Ph):RV φ (axr n1 s1 d1 n2 s2 d2) (rv (rq n1 (bn s1) (bn d1)*rq n2 (bn s2) (bn d2))):=by obtain⟨a1,a2,a3,-⟩:=Kt h1;obtain⟨b1,b2,b3,-⟩:=Kt h2;rw[VQ,a1,a2,a3,b1,b2,b3];unfold axr;rw[jr,jr];exact FX (bR (IW _) (IW _)) φ
def VB(x:V)(b:Bool):V:=.aU x (.aU (.c (.bool b)) .tnil)
def S9{φ:Ph}{x:V}{q:Rat}{b:Bool}(h:RV φ x (rv q)):RV φ (VB x b) (rvB q b):=⟨rv q,[.bool b],rfl,h,.bool b,[],rfl,rfl,rfl⟩
def axt(n1:Bool)(s1 d1:Nat)(n2:Bool)(s2 d2:Nat):V:=
 bif Nat.beq s2 0 then VB zeroV false else fN (s1*dD d2) λX=>fN (dD d1*s2) λZ=>VB (enc (n1 !=n2) X Z) true
def ar4{n1 n2:Bool}{s1 d1 s2 d2:Nat}(h1:OW n1 s1 d1=true)(h2:OW n2 s2 d2=true)(φ:Ph):RV φ (axt n1 s1 d1 n2 s2 d2) (rvB (G7 (rq n1 (bn s1) (bn d1)) (rq n2 (bn s2) (bn d2))) (okR (rq n2 (bn s2) (bn d2)))):=by
 obtain⟨a1,a2,a3,-⟩:=Kt h1;obtain⟨b1,b2,b3,-⟩:=Kt h2;unfold axt G7 okR;rw[pR];by_cases h0:s2=0
 .have hq:rq n2 (bn s2) (bn d2)=0:=pK.mp (by rw[b2];exact h0);rw[ab h0,hq,ab rfl];exact S9 (Yg φ)
 .have hq:¬rq n2 (bn s2) (bn d2)=0:=λe=>h0 (by rw[<-b2];exact pK.mpr e);rw[ae h0,ae hq,VR hq,a1,a2,a3,b1,b2,b3,jr,jr,show(!decide (rq n2 (bn s2) (bn d2)=0))=true by simp[hq]];exact S9 (FX (bR (IW _) jb) φ)
def abm(x y:Nat):Int:=bif Nat.blt x y then .negSucc 0 else bif Nat.beq x y then .ofNat 0 else .ofNat 1
def aiw(n1:Bool)(s1 d1:Nat)(n2:Bool)(s2 d2:Nat):Int:=
 match n1,n2 with
 |true,false=>.negSucc 0
 |false,true=>.ofNat 1
 |false,false=>abm (s1*dD d2) (s2*dD d1)
 |true,true=>abm (s2*dD d1) (s1*dD d2)
def afU{x y:Nat}(h:x<y):abm x y=-1:=by unfold abm;rw[show Nat.blt x y=true from di h];rfl
def OX{x y:Nat}(h:¬x<y):abm x y=if x=y then 0 else 1:=by
 unfold abm;rw[show Nat.blt x y=false from by
  cases hb:Nat.blt x y with
  |true=>exact absurd (ax hb) h
  |false=>rfl,dT,pR]
 split<;>rfl
def Yh{n1 n2:Bool}{s1 d1 s2 d2:Nat}(h1:OW n1 s1 d1=true)(h2:OW n2 s2 d2=true):nC (rq n1 (bn s1) (bn d1)) (rq n2 (bn s2) (bn d2))=aiw n1 s1 d1 n2 s2 d2:=by
 obtain⟨a1,a2,a3,-⟩:=Kt h1;obtain⟨b1,b2,b3,-⟩:=Kt h2;obtain⟨va,-,-,za⟩:=xg h1;obtain⟨vb,-,-,zb⟩:=xg h2;have na:=(I9 va).1;have nb:=(I9 vb).1;rw[dS]at na nb;generalize hp:rq n1 (bn s1) (bn d1)=p at*;generalize hq:rq n2 (bn s2) (bn d2)=q at*;have l1:=Rat.lt_iff p q;have l2:=Rat.lt_iff q p;rw[na,nb,a3,b3]at l1 l2;have p1:=IW d1;have p2:=IW d2;have tri:∀c:Int,(p<q->c=-1)->(q<p->c=1)->(p=q->c=0)->nC p q=c:=λc t1 t2 t3=>by
  by_cases h1:p<q
  .rw[CG h1,t1 h1]
  .by_cases h2:q<p
   .rw[CJ h2,t2 h2]
   .have h3:p=q:=Rat.le_antisymm (fw.mp h2) (fw.mp h1);rw[t3 h3,h3,Jb]
 have eqc:p=q->s1*dD d2=s2*dD d1:=λe=>by rw[<-a2,<-b2,<-a3,<-b3,e]
 have x1:((s1*dD d2:Nat):Int)=(s1:Int)*(dD d2:Int):=by simp
 have x2:((s2*dD d1:Nat):Int)=(s2:Int)*(dD d1:Int):=by simp
 cases n1<;>cases n2
 .simp only[wL,cE,ib]at l1 l2;rw[<-x1,<-x2]at l1;rw[<-x1,<-x2]at l2;show nC p q=abm (s1*dD d2) (s2*dD d1);refine tri _ (λh=>afU (by have:=l1.mp h;omega)) (λh=>?_) (λh=>?_)
  .have:=l2.mp h;rw[OX jb,ae jb]
  .have:=eqc h;rw[OX jb,ab this]
 .have hs:s2≠0:=λe=>by have:=zb e;cases this
  have hlt:q<p:=l2.mpr (by simp only[wL,fX,cE,ib];have:0<(s2:Int)*(dD d1:Int):=Int.mul_pos jb jb;have h5:0<=(s1:Int)*(dD d2:Int):=Int.mul_nonneg jb jb;rw[Int.neg_mul];omega)
  rw[CJ hlt];rfl
 .have hs:s1≠0:=λe=>by have:=za e;cases this
  have hlt:p<q:=l1.mpr (by simp only[wL,fX,cE,ib];have:0<(s1:Int)*(dD d2:Int):=Int.mul_pos jb jb;have h5:0<=(s2:Int)*(dD d1:Int):=Int.mul_nonneg jb jb;rw[Int.neg_mul];omega)
  rw[CG hlt];rfl
 .simp only[wL,fX,Int.neg_mul]at l1 l2;rw[<-x1,<-x2]at l1;rw[<-x1,<-x2]at l2;show nC p q=abm (s2*dD d1) (s1*dD d2);refine tri _ (λh=>afU (by have:=l1.mp h;omega)) (λh=>?_) (λh=>?_)
  .have:=l2.mp h;rw[OX jb,ae jb]
  .have:=eqc h;rw[OX jb,ab this.symm]
def anJ(n:Bool)(s:Nat):Int:=bif Nat.beq s 0 then .ofNat 0 else bif n then .negSucc 0 else .ofNat 1
def anK{n:Bool}{s d:Nat}(h:OW n s d=true):sg (rq n (bn s) (bn d))=anJ n s:=by
 obtain⟨a1,a2,-⟩:=Kt h;unfold anJ;rw[pR];by_cases h0:s=0
 .rw[ab h0,VU (by rw[a2];exact h0)];rfl
 .rw[ae h0];cases n with
  |true=>rw[aiH a1];rfl
  |false=>rw[aiI a1 (by rw[a2];exact h0)];rfl
def aBf(i:Int):V:=match i with|.ofNat m=>enc false m 1|.negSucc m=>enc true (m+1) 1
def ar5(i:Int)(φ:Ph):RV φ (aBf i) (rv (i:Rat)):=by
 rw[<-aju i];cases i with
 |ofNat m=>exact FX (n:=false) (x:=m) (y:=1) (cL 1) φ
 |negSucc m=>
  rw[show decide (Int.negSucc m<0)=true from aw (Int.negSucc_lt_zero m)]
  exact FX (n:=true) (x:=m+1) (y:=1) (cL 1) φ
def Tc(f:Bool->Nat->Nat->V):List V->Option V
 |[.agg [.bool n,x,y]]=>(match x.num,y.num with|some s,some d=>bif OW n s d then some (f n s d)else none|_,_=>none)
 |_=>none
def Ku(f:Bool->Nat->Nat->Bool->Nat->Nat->V):List V->Option V
 |[.agg [.bool n1,x1,y1],.agg [.bool n2,x2,y2]]=>(match x1.num,y1.num with
  |some s1,some d1=>(match x2.num,y2.num with|some s2,some d2=>bif OW n1 s1 d1&&OW n2 s2 d2 then some (f n1 s1 d1 n2 s2 d2)else none|_,_=>none)
  |_,_=>none)
 |_=>none
def VD(f:Nat->Nat->V):List V->Option V
 |[.c x,.c y]=>(match x.num,y.num with|some a,some b=>bif sm a&&sm b then some (f a b)else none|_,_=>none)
 |_=>none
def VE(n:Bool)(s d:Nat):V:=.agg [.bool n,.nat s,.nat d]
def iVk(i:Int):V:=match i with|.ofNat 0=>jN 0|.ofNat (n+1)=>jN (n+1)|.negSucc n=>.c (.int .i64 (.negSucc n))
def ar6(c:Int->Bool):List V->Option V
 |[.c (.int .i64 i)]=>bif c i then some (aBf i)else none
 |_=>none
def anL:List V->Option V
 |[.c (.bool n),.c x,.c y]=>(match x.num,y.num with|some a,some b=>bif sm a&&sm b then some (bif Nat.beq b 0 then VB zeroV false else VB (enc n a b) true)else none|_,_=>none)
 |_=>none
def anM:List V->Option V
 |[.c (.int .u64 (.ofNat u))]=>bif Nat.blt u 18446744073709551616 then some (.c (.nat u))else none
 |_=>none
def axu(a b:Nat):V:=bif Nat.blt a b then .aU (.c (.nat 0)) (.aU (.c (.bool false)) .tnil)else fN (a-b) λm=>.aU (.c (.nat m)) (.aU (.c (.bool true)) .tnil)
def anN:List V->Option V
 |[.c x,.c y]=>(match x.num,y.num with|some a,some b=>bif sm a&&(sm b&& !Nat.beq b 0)then some (fN (a/b) λq=>fN (a%b) λr=>.aU (.c (.nat q)) (.aU (.c (.nat r)) (.aU (.c (.bool true)) .tnil)))else none|_,_=>none)
 |_=>none
def anO(n:Nat):V:=fN n λn=>.c (.nat n)
def ctr(f:Nat)(args:List V):Option V:=
 if f=99 then Ku ar1 args
 else if f=83 then Ku (λa b c d e f=>iVk (aiw a b c d e f)) args
 else if f=199 then Ku axr args
 else if f=197 then Ku axt args
 else if f=133 then Tc (λn s _=>iVk (anJ n s)) args
 else if f=59 then Ku (λa b c d e f=>bif decide (aiw a b c d e f<=0)then VE a b c else VE d e f) args
 else if f=85 then Ku (λa b c d e f=>bif decide (0<=aiw a b c d e f)then VE a b c else VE d e f) args
 else if f=145 then Tc VE args
 else if f=179 then Ku ar1 args
 else if f=72 then ar6 (Ih .i64) args
 else if f=267 then VD (λa b=>anO (a+b)) args
 else if f=177 then VD (λa b=>anO (a*b)) args
 else if f=252 then VD (λa b=>anO (Nat.gcd a b)) args
 else if f=278 then anL args
 else if f=242 then Tc (λ_ _ _=>.c (.bool true)) args
 else if f=254 then anM args
 else if f=268 then VD axu args
 else if f=253 then anN args
 else if f=60 then ar6 (λi=>match i with|.ofNat m=>Nat.ble m 100|_=>false) args
 else none
def axv(f:Nat)(args:List V)(J:St):Option (V×St):=match ctr f args with|some v=>some (v,J)|none=>none
def isT:Option (V×St)->Bool
 |some (.c (.bool true),_)=>true
 |_=>false
end Go.Proofs.Xe
