import Derived.Test.YtodnohicahohdaaGreatDoorYh46
set_option linter.all false
set_option maxRecDepth 100000
set_option maxHeartbeats 8000000
attribute [-go_sem] Go.Proofs.Xe.azd Go.Proofs.Xe.aze Go.Proofs.Xe.azf
namespace Go.Proofs.Xe
open Go.RowKit Go.Proofs.Ins
def Yo.at{h:Tr Bk}{v:B}{l:List Rt}{lo hi:Nat}(ho:Yo h v l lo hi){j:Nat}(hj:j<l.length):∃b o c,v=.sl b o l.length c/\b<hi/\ld h b (o+j*3) 3 true=some (.agg (rtB (ix l j))):=by obtain⟨b,o,c,e,hp,hld⟩:=(fJ.hlp (p:=λb=>b<hi) ho (λ_=>rfl) jj (λ_ _=>rfl) λb _ h=>h).pos jb;exact⟨b,o,c,e,hp,hld j hj⟩
def IU(g:dV)(L:List (List Rat))(k:Nat):Rat:=aA4 g L (ix (iL g) k)
section
variable {m n1 n2 n3 nv n5 n6 n7:B}
def anB{J:St}(hW:WF J){p p':Nat->Prop}{ev dv:B}(g:dV)(hg:jY p' J.h ev dv g)(h0:Jt g=0)(L:List (List Rat))(hT:JF p J.h nv L)(hL:SzT L)(hM:∀d,d<g.d.length->∀n,n<=(ix g.d d).l.length->Sz (FV L (ix g.d d).l n))(hm:m.kn=true)(k1:n1.kn=true)(k2:n2.kn=true)(k3:n3.kn=true)(k5:n5.kn=true)(k6:n6.kn=true)(k7:n7.kn=true):
  aB EN 141 [.agg [ev,dv],.agg [m,n1,n2,n3,nv,n5,n6,n7]] J λr J'=>∃ov,r=.c ov/\fJ J'.h ov (iL g).length (λk=>bY (IU g L k)) 3 69 J.aj J'.aj/\Fr J J':=by
 refine aI (tX.o _ _) tX.h ?_
 unfold tX
 dsimp only
 have hV:=CX h0
 have hek:=hg.e.kn
 have hdk:=hg.d.kn
 have hnk:=hT.choose_spec.1.kn
 simp(disch:=try exact jz)only[go_sem,hek,hdk,hnk,hm,k1,k2,k3,k5,k6,k7]
 refine aB.st (Fr J) (fr) λhF=>?_
 refine(ak9 hF.wf g (hg.fr hW hF) h0).mono ?_
 rintro _ σ1 ⟨rv,rfl,hR,hf1⟩
 have hF1:=hF.trans hf1
 have hle1:=hF1.le
 have q0:σ1.h J.aj=some ⟨[ev,dv],none⟩:=hf1.get hF.wf ((au _ _ _ _ jb).trans (aA _ _ _))
 have q1:σ1.h (J.aj+1)=some ⟨[m,n1,n2,n3,nv,n5,n6,n7],none⟩:=hf1.get hF.wf (aA _ _ _)
 have hnx:J.aj+1+1<=σ1.aj:=hf1.le
 have aA5:=fJ.len hR
 have hRl:=Ot hV g.d.length
 have hnd:=hV.nd
 have hRl:(iL g).length<=300:=by have h9:(iL g).length<=192+g.d.length:=hRl;omega
 simp(disch:=try exact jz)only[go_sem,aA5]
 refine aG (λq tm J'=>∃j ov,q=(iL g).length-j/\j<=(iL g).length/\r8 tm 2=.c (.ptr J.aj 0)/\r8 tm 3=.c (.ptr (J.aj+1) 0)/\r8 tm 5=.c ov/\r8 tm 12=.c rv/\r8 tm 13=jN (iL g).length/\r8 tm 14=jN j
  /\fJ J'.h ov j (λk=>bY (IU g L k)) 3 69 σ1.aj J'.aj/\Fr σ1 J') (iL g).length ?_ ?_
 .refine⟨0,.aQ,jb,jb,?_⟩
  refine WP ?_
  exact⟨.nil,Fr.refl hF1.wf⟩
 .rintro q tm J' ⟨j,ov,rfl,hj,t2,t3,t5,t12,t13,t14,hO,hf⟩
  have hle:=hf.le
  refine W3 ?_
  refine aH (λhlt=>?_) (λhlt=>?_)
  .obtain⟨b,o,c,rfl,hb,hld⟩:=hR.at hlt
   have hld:=hf.ld hF1.wf hld
   have q0':=hf.get hF1.wf q0
   have q1':=hf.get hF1.wf q1
   have htot:IU g L j=aA4 g L (ix (iL g) j):=rfl
   have hok:=hO.kn
   rcases Yf g hlt with⟨i,k,hx⟩|⟨d,hd,hx⟩
   .rw[hx]at hld htot
    have hneg:decide (Int.negSucc 0<Int.ofNat 0)=true:=rfl
    have htot:IU g L j=qw L i k:=htot
    unfold rtB at hld
    simp(disch:=try exact jz)only[go_sem,W4,hld,hneg,ay q1',hnk,hm,k1,k2,k3,k5,k6,k7,hok]
    refine aB.st (Fr J') (by have hF:=Fr.refl hf.wf;exact fr) λhF2=>?_
    refine(ate hF2.wf L (hT.fr hW (hF1.trans (hf.trans hF2))) hL hm k1 k2 k3 k5 k6 k7 i k).mono ?_
    rintro _ σ2 ⟨rfl,hf2⟩
    have hF3:=hF2.trans hf2
    have hle3:=hF3.le
    have ap6:=hf.trans hF3
    unfold rV rK
    rw[<-htot]
    have hz:=(hL.paid i k).two
    have hb1:b<σ2.aj:=by have:=hF1.le;have:=hf2.le;omega
    rcases hO with⟨rfl,rfl⟩|⟨hj0,bo,rfl,e1,e2,e3⟩
    .refine W0 ?_
     refine⟨(iL g).length-1,jb,1,_,rfl,jb,rfl,rfl,?_,?_⟩
     .exact fJ.snoc (n:=0) (G:=λk=>bY (IU g L k)) (λ_ _=>rfl) jb rfl (λ_ _=>rfl) rfl _ jb
     .exact fr
    .have e1':σ2.h bo=some ⟨dh j (λk=>IU g L k),some (3,69)⟩:=hF3.get hf.wf e1
     have hl3:=Qk j λk=>IU g L k
     simp(disch:=try exact jz)only[go_sem,W4,e1']
     refine⟨(iL g).length-(j+1),jb,j+1,_,rfl,jb,rfl,rfl,?_,?_⟩
     .refine fJ.snoc (n:=j) (G:=λk=>bY (IU g L k)) (λ_ _=>rfl) jb ?_ (λ_ _=>rfl) rfl _ jb
      rw[<-KX];rfl
     .exact fr
   .rw[hx]at hld htot
    have hneg:decide (Int.ofNat d<Int.ofNat 0)=false:=ap (by simp only[bX];omega)
    unfold rtB at hld
    obtain⟨bd,od,cd,rfl,T,-,hT0,hLg⟩:=hg.d.at hd
    have hT1:=(hF1.trans hf).ld hW hT0
    have Ll:=hLg.kn
    have hbd:=hf.wf.cZ hT1
    have hlenL:=hLg.len
    simp(disch:=try exact jz)only[go_sem,W4,hld,hneg,ay q0',hek,hdk,hT1,Ll,hlenL,hok]
    have hnl:=hV.nl d hd
    have hsum:IU g L j=FV L (ix g.d d).l (ix g.d d).l.length:=htot
    refine bI.mono (Q:=λe tm σ3=>e=.exit 2/\r8 tm 2=.c (.ptr J.aj 0)/\r8 tm 3=.c (.ptr (J.aj+1) 0)/\r8 tm 5=.c ov/\r8 tm 8=.c (.ptr (J'.aj+1) 0)/\r8 tm 12=.c (.sl b o (iL g).length c)/\r8 tm 13=jN (iL g).length/\r8 tm 14=jN j
     /\σ3.h (J'.aj+1)=some ⟨bY (IU g L j),none⟩/\Fr J' σ3/\J'.aj+1+1<=σ3.aj)
     (aG (λq tm σ3=>∃n,q=(ix g.d d).l.length-n/\n<=(ix g.d d).l.length/\r8 tm 2=.c (.ptr J.aj 0)/\r8 tm 3=.c (.ptr (J.aj+1) 0)/\r8 tm 5=.c ov/\r8 tm 8=.c (.ptr (J'.aj+1) 0)/\r8 tm 12=.c (.sl b o (iL g).length c)/\r8 tm 13=jN (iL g).length/\r8 tm 14=jN j
      /\r8 tm 35=.c T/\r8 tm 36=jN (ix g.d d).l.length/\r8 tm 37=jN n
      /\σ3.h (J'.aj+1)=some ⟨bY (FV L (ix g.d d).l n),none⟩/\Fr J' σ3/\J'.aj+1+1<=σ3.aj) (ix g.d d).l.length ?_ ?_) ?_
    .refine⟨0,jb,jb,?_⟩
     refine W1 ?_
     refine⟨rfl,?_,jb⟩
     have hFr:=Fr.refl hf.wf
     exact fr
    .rintro q tm3 σ3 ⟨n,rfl,hn,t2,t3,t5,t8,t12,t13,t14,t35,t36,t37,s8,hf3,hn3⟩
     have hle3:=hf3.le
     refine W3 ?_
     refine aH (λhln=>?_) (λhln=>?_)
     .obtain⟨b2,o2,c2,rfl,hl2,-,-⟩:=hLg.at hln
      obtain⟨e,k,hx2,he,hk⟩:=hV.l d hd n hln
      rw[hx2]at hl2
      have hl3:=(hF1.trans (hf.trans hf3)).ld hW hl2
      have hs1:FV L (ix g.d d).l (n+1)=FV L (ix g.d d).l n+qw L e k:=by show FV L (ix g.d d).l n+qw L (ix (ix g.d d).l n).e.toNat (ix (ix g.d d).l n).k.toNat=_;rw[hx2];rfl
      have q13:=hf3.get hf.wf q1'
      have hzs:Sz (FV L (ix g.d d).l n):=hM d hd n jb
      have hzp:Sz (qw L e k):=hL.paid e k
      have hq:=hf3.wf.lt q13
      unfold bY at s8
      simp(disch:=try exact jz)only[go_sem,W4,hl3,ay s8,ay q13,hnk,hm,k1,k2,k3,k5,k6,k7]
      refine aB.st (Fr σ3) (by have hF:=Fr.refl hf3.wf;exact fr) λiK=>?_
      refine(ate iK.wf L (hT.fr hW (hF1.trans (hf.trans (hf3.trans iK)))) hL hm k1 k2 k3 k5 k6 k7 e k).mono ?_
      rintro _ σ4 ⟨rfl,hf4⟩
      have eX:=iK.trans hf4
      have vS:=eX.le
      have aEn:=hf3.trans eX
      have s84:=eX.get hf3.wf s8
      unfold rV rK
      have aEo:=hzp.two
      have aEp:=hzs.two
      simp(disch:=try exact jz)only[go_sem,W4,ay s84,aJ s84,hzs,hzp]
      exact⟨(ix g.d d).l.length-(n+1),jb,n+1,rfl,jb,rfl,by rw[hs1];rfl,fr,jb⟩
     .have:n=(ix g.d d).l.length:=jb
      subst this
      rw[<-hsum]at s8
      simp(disch:=try exact jz)only[go_sem,am]
      exact⟨t2,t3,t5,t8,t12,t13,t14,s8,hf3,hn3⟩
    .rintro _ tm σ3 ⟨rfl,t2,t3,t5,t8,t12,t13,t14,s8,hf3,hn3⟩
     have hle3:=hf3.le
     have ap6:=hf.trans hf3
     have hb1:b<σ3.aj:=by have:=hF1.le;omega
     unfold bY at s8
     rcases hO with⟨rfl,rfl⟩|⟨hj0,bo,rfl,e1,e2,e3⟩
     .simp(disch:=try exact jz)only[go_sem,W4,ay s8]
      refine⟨(iL g).length-1,jb,1,_,rfl,jb,rfl,rfl,?_,?_⟩
      .exact fJ.snoc (n:=0) (G:=λk=>bY (IU g L k)) (λ_ _=>rfl) jb rfl (λ_ _=>rfl) rfl _ jb
      .exact fr
     .have e1':σ3.h bo=some ⟨dh j (λk=>IU g L k),some (3,69)⟩:=hf3.get hf.wf e1
      have hl3:=Qk j λk=>IU g L k
      simp(disch:=try exact jz)only[go_sem,W4,ay s8,e1']
      refine⟨(iL g).length-(j+1),jb,j+1,_,rfl,jb,rfl,rfl,?_,?_⟩
      .refine fJ.snoc (n:=j) (G:=λk=>bY (IU g L k)) (λ_ _=>rfl) jb ?_ (λ_ _=>rfl) rfl _ jb
       rw[<-KX];rfl
      .exact fr
  .have:j=(iL g).length:=jb
   subst this
   simp(disch:=try exact jz)only[go_sem,t5]
   exact⟨ov,rfl,hO.mono (λ_ _ _=>rfl) hle1 jp,hF1.trans hf⟩
end
def anC{J:St}(hW:WF J){n:Nat}(hn:n<=1000000){f g:Nat->Bool}{a b:B}(h1:HL J.h 1 a n λc=>[.bool (f c)])(h2:HL J.h 1 b n λc=>[.bool (g c)]):
  aB EN 150 [.c a,.c b] J λr J'=>(∃d:Bool,r=.c (.bool d)/\(d=true↔BEq n f g))/\Fr J J':=by
 refine aI (kC.o _ _) kC.h ?_
 unfold kC
 dsimp only
 have hla:=h1.len
 have hlb:=h2.len
 have hFr:=Fr.refl hW
 simp(disch:=try exact jz)only[go_sem,hla,hlb,U4]
 refine aG (λx tm J'=>∃j,x=n-j/\j<=n/\r8 tm 0=.c a/\r8 tm 1=.c b/\r8 tm 12=jN n/\r8 tm 13=jN j/\(∀i,i<j->f i=g i)/\Fr J J') n ?_ ?_
 .refine⟨0,jb,jb,?_⟩
  refine WP ?_
  exact⟨λi hi=>absurd hi jb,hFr⟩
 .rintro x tm J' ⟨j,rfl,hj,t0,t1,t12,t13,he,hF⟩
  refine W3 ?_
  refine aH (λhlt=>?_) (λhlt=>?_)
  .obtain⟨b5,o5,c5,rfl,bD⟩:=h1.one jb
   obtain⟨b6,o6,c6,rfl,bV⟩:=h2.one jb
   have bD:=hF.ld hW (bD j hlt)
   have bV:=hF.ld hW (bV j hlt)
   by_cases hfg:f j=g j
   .have hd:(false==(f j==g j))=false:=by rw[hfg];cases g j<;>rfl
    simp(disch:=try exact jz)only[go_sem,W4,bD,bV,hd]
    exact⟨n-(j+1),jb,j+1,rfl,jb,rfl,λi hi=>by rcases dq.mp hi with h|rfl;exact he i h;exact hfg,hF⟩
   .have hd:(false==(f j==g j))=true:=by cases hf:f j<;>cases hg:g j<;>first|rfl|exact absurd (hf.trans hg.symm) hfg
    simp(disch:=try exact jz)only[go_sem,W4,bD,bV,hd]
    exact⟨⟨_,rfl,⟨λh=>(by cases h),λh=>absurd (h j hlt) hfg⟩⟩,hF⟩
  .have:j=n:=jb
   subst this
   simp(disch:=try exact jz)only[go_sem,t0,t1]
   exact⟨⟨_,rfl,⟨λ_=>he,λ_=>rfl⟩⟩,hF⟩
def afS{K:Nat->Rat}:∀{n:Nat},(∀i,i<n->0<=K i)->ald K n=.ofNat 0:=λ{n} h=>by
 have:∀k,k<=n->Ir K k=false:=λk=>by
  induction k with
  |zero=>exact λ_=>rfl
  |succ k ih=>
   intro hk
   show(Ir K k||decide (K k<0))=false
   rw[ih jb,ap (fw.mpr (h k jb))];rfl
 unfold ald;rw[this n jp];rfl
def abe{J:St}(hW:WF J){p p1:Nat->Prop}{ev dv cv:B}{g:dV}(hg:jY p J.h ev dv g)(h:jT g){K:Nat->Rat}(hC:aZ p1 J.h 3 cv g.e.length λj=>bY (K j))(hK:∀j,Sz (K j))(hK0:∀j,j<g.e.length->0<=K j):
  aB EN 62 [.agg [ev,dv],.c cv] J λr J'=>r=jN 0/\Fr J J':=by
 refine aI (qG.o _ _) qG.h ?_
 unfold qG
 dsimp only
 have hek:=hg.e.kn
 have hdk:=hg.d.kn
 have hel:=hg.e.len
 have ZL:=aZ.len hC
 have hn8:=h.n
 have hFr:=Fr.refl hW
 simp(disch:=try exact jz)only[go_sem,hek,hdk]
 refine aB.st (Fr J) (fr) λhF=>?_
 refine(XR hF.wf (hg.fr hW hF) h.z h.bld (λi hi=>(h.m i hi).1) λd hd=>(h.d d hd).2.1).mono ?_
 rintro _ σ2 ⟨rfl,hf2⟩
 have hF2:=hF.trans hf2
 have q2:=hf2.get hF.wf (aA _ _ _)
 have hd0:decide ((0:Int)=Int.ofNat 0)=true:=rfl
 have hdn:decide (Int.ofNat g.e.length=Int.ofNat g.e.length)=true:=aw rfl
 simp(disch:=try exact jz)only[go_sem,hek,hdk,hel,ZL,hd0,hdn,ay q2,q2]
 refine(acR hF2.wf K (aZ.fr hW hF2 hC) hK jb).mono ?_
 rintro _ σ3 ⟨rfl,hf3⟩
 refine WN ?_
 exact⟨by rw[afS hK0],hF2.trans hf3⟩
structure DG(n:Nat)(m K:Nat->Rat)(cl:Nat->List C5)(al:Nat->List fD)(dl:List oM):Prop where
 n4:n<=4
 g:jT (dZ n m cl al dl)
 ch:∀F:Nat->Bool,cpG (dZ n m cl al dl) (ZW (uz (dZ n m cl al dl).e) K F (dZ n m cl al dl).e.length)=dZ n (pJ m K F) cl al dl
 s:CW 1000000 (dZ n m cl al dl)
 l:Xa 8 (dZ n m cl al dl)
 z:SzG (dZ n m cl al dl)
 c:∀a:Nat->Bool,jT (dZ n (pJ m K a) cl al dl)
 k:∀j,Sm 1000 (K j)
 k0:∀j,0<=K j
 ex:∀a:Nat->Bool,∃x,RY (n:=n) (g:=bH (dZ n m cl al dl)) (pJ m K a) x
section
variable {n:Nat} {m K:Nat→Rat} {cl:Nat→List C5} {al:Nat→List fD} {dl:List oM}
def DG.sh{a:Nat->Bool}{x:Nat->Rat}(h:DG n m K cl al dl)(hx:RY (n:=(dZ n (pJ m K a) cl al dl).e.length) (g:=bH (dZ n (pJ m K a) cl al dl)) (jI (dZ n (pJ m K a) cl al dl)) x):RY (n:=n) (g:=bH (dZ n m cl al dl)) (pJ m K a) x:=by
 have hn:=iU n (pJ m K a) cl al dl;rw[hn,SG (m:=m)]at hx;have hcs:∀i,i<n->jI (dZ n (pJ m K a) cl al dl) i=pJ m K a i:=λi hi=>by unfold jI;rw[BX _ cl al dl hi];exact wO _
 exact⟨hx.nn,λj hj=>by rw[<-hcs j hj];exact hx.fix j hj,λy hy hp=>hx.grt y hy λj hj=>by rw[hcs j hj];exact hp j hj⟩
def adP{m':Nat->Rat}{x:Nat->Rat}:XJ (dZ n m' cl al dl) x=XJ (dZ n m cl al dl) x:=by funext i c;unfold XJ;rw[Me (m:=m)]
def Vy{m':Nat->Rat}:kE (dZ n m' cl al dl).e=kE (dZ n m cl al dl).e:=by funext i;unfold kE;rw[(aa5 (m:=m) i).1]
structure Uc(p:Nat->Prop)(h:Tr Bk)(dv:B)(c8:List B)(n:Nat)(m K:Nat->Rat)(cl:Nat->List C5)(al:Nat->List fD)(dl:List oM)(a:Nat->Bool)(x:Nat->Rat):Prop where
 d:aZ p h 1 dv n λi=>[.bool (a i)]
 s:NP p h (.agg c8) (dZ n (pJ m K a) cl al dl) x
 z:vW (dZ n (pJ m K a) cl al dl) x 1
 g:RY (n:=n) (g:=bH (dZ n m cl al dl)) (pJ m K a) x
 t:BEq n (Yr n (dZ n m cl al dl) m K a) a
def Kr{J:St}(hW:WF J){p p1 p2:Nat->Prop}{ev dv cv iv:B}(h:DG n m K cl al dl)(hg:jY p J.h ev dv (dZ n m cl al dl))(hC:aZ p1 J.h 3 cv n λj=>bY (K j)){f:Nat->Bool}(hI:aZ p2 J.h 1 iv n λj=>[.bool (f j)])
  {P:(Nat->Bool)->Nat->Prop}(hP:Dt n (Yr n (dZ n m cl al dl) m K) P) (h0:P f 0):
  aB EN 63 [.agg [ev,dv],.c cv,.c iv] J λr J'=>∃(d0:B) (c8:List B) (a:Nat->Bool) (x:Nat->Rat) (k:Nat),r=.agg (d0::(c8++[.int .i64 (.ofNat k)]))/\Uc (λb=>(p2 b/\b<J.aj)\/(J.aj+1+1+1<=b/\b<J'.aj)) J'.h d0 c8 n m K cl al dl a x/\P a k/\Fr J J':=by
 refine aI (kY.o _ _) kY.h ?_
 unfold kY
 dsimp only
 have hn:=iU n m cl al dl
 have hn4:=h.n4
 have hG:=h.g
 have hek:=hg.e.kn
 have hdk:=hg.d.kn
 have hik:=aZ.kn hI
 have hil:=aZ.len hI
 have hFr:=Fr.refl hW
 simp(disch:=try exact jz)only[go_sem,hek,hdk,hik]
 refine aG (λq tm J'=>∃(d0 c1 c2 c3 c4 c5 c6 c7 c8:B) (a:Nat->Bool) (k:Nat),q=n-k/\r8 tm 1=.c cv/\r8 tm 2=.c iv/\r8 tm 3=.c (.ptr J.aj 0)/\r8 tm 6=.c (.ptr (J.aj+1) 0)/\r8 tm 7=.c (.ptr (J.aj+1+1) 0)
  /\J'.h J.aj=some ⟨[ev,dv],none⟩/\J'.h (J.aj+1)=some ⟨[.aQ,.aQ,.aQ,.aQ,.aQ,.aQ,.aQ,.aQ,.aQ,.int .i64 (.ofNat 0)],none⟩/\J'.h (J.aj+1+1)=some ⟨[d0,c1,c2,c3,c4,c5,c6,c7,c8,.int .i64 (.ofNat k)],none⟩/\aZ (λb=>(p2 b/\b<J.aj)\/(J.aj+1+1+1<=b/\b<J'.aj)) J'.h 1 d0 n (λj=>[.bool (a j)])/\P a k/\Fr J J'/\J.aj+1+1+1<=J'.aj) n ?_ ?_
 .refine⟨iv,.aQ,.aQ,.aQ,.aQ,.aQ,.aQ,.aQ,.aQ,f,0,jb,?_⟩
  refine WP ?_
  exact⟨aZ.keep (aZ.plt hW hI) (λb hb=>by have hb:=hb.2;simp(disch:=omega) only[au]) λb hb=>.inl hb,h0,fr,jb⟩
 .rintro q tm J' ⟨d0,c1,c2,c3,c4,c5,c6,c7,c8,a,k,rfl,t1,t2,t3,t6,t7,q3,q6,q7,hD,hPa,hf,hnx⟩
  have hle:=hf.le
  have arV:=aZ.kn hD
  have hkn:=hP.le a k hPa
  have hg':=hg.fr hW hf
  have hC':=aZ.fr hW hf hC
  have lM:=Fr.refl hf.wf
  simp(disch:=try exact jz)only[go_sem,W4,ay q3,q3,ay q7,q7,hek,hdk,arV]
  refine(ali hf.wf (dZ n m cl al dl) hg' h.s (h.l.up jj) K a (by rw[hn];exact hC') (by rw[hn];exact hD) h.k).mono ?_
  rintro _ σ1 ⟨⟨ov,pI,rfl,hCp⟩,hf1⟩
  have hg1:=hCp.grp
  rw[h.ch]at hg1
  have ok1:=hCp.kn.1
  have ok2:=hCp.kn.2
  simp(disch:=try exact jz)only[go_sem,W4,ok1,ok2]
  refine(afL (g:=dZ n (pJ m K a) cl al dl) hf1.wf hg1 (h.c a)).mono ?_
  rintro _ σ2 ⟨x,⟨rr,rfl,hV⟩,hPz,hIn,hgt,hf2⟩
  have hV2:=hV
  obtain⟨cm,G,Dv,Rf,Nt,Su,Re,Fu,rfl,v1,v2,v3,v4,v5,v6,v7,v8⟩:=hV
  have k1:=aZ.kn v1;have k2:=v2.kn;have k3:=v3.kn;have k4:=v4.kn;have k5:=v5.kn;have k6:=aZ.kn v6;have k7:=aZ.kn v7;have k8:=aZ.kn v8
  have anD:=hf1.trans hf2
  have hF2:=hf.trans anD
  have hle1:=hf1.le
  have hle2:=hf2.le
  have q32:=anD.get hf.wf q3
  have q62:=anD.get hf.wf q6
  have q72:=anD.get hf.wf q7
  have hl7:=hF2.wf.lt q72
  have hD2:=aZ.keep (q:=λb=>(p2 b/\b<J.aj)\/(J.aj+1+1+1<=b/\b<σ2.aj)) hD (λb hb=>anD.old b jb) λb hb=>hb.imp_right λh=>⟨h.1,jb⟩
  simp(disch:=try exact jz)only[go_sem,W4,k1,k2,k3,k4,k5,k6,k7,k8,q72,aJ q72,ay q32,q32,hek,hdk]
  refine aB.st (Fr J) (fr) λhF3=>?_
  have q33:=(au σ2.h (J.aj+1+1) J.aj ⟨[d0,cm,G,Dv,Rf,Nt,Su,Re,Fu,.int .i64 (.ofNat k)],none⟩ jb).trans q32
  have q63:=(au σ2.h (J.aj+1+1) (J.aj+1) ⟨[d0,cm,G,Dv,Rf,Nt,Su,Re,Fu,.int .i64 (.ofNat k)],none⟩ jb).trans q62
  have q73:=aA σ2.h (J.aj+1+1) ⟨[d0,cm,G,Dv,Rf,Nt,Su,Re,Fu,.int .i64 (.ofNat k)],none⟩
  have hV3:NP (λb=>(p2 b/\b<J.aj)\/(J.aj+1+1+1<=b/\b<σ2.aj)) (hset σ2.h (J.aj+1+1) ⟨[d0,cm,G,Dv,Rf,Nt,Su,Re,Fu,.int .i64 (.ofNat k)],none⟩) _ _ _:=hV2.keep (λb hb=>au _ _ _ _ jb) λb hb=>.inr ⟨jb,hb.2⟩
  have hT:dP (λ_=>True) (hset σ2.h (J.aj+1+1) ⟨[d0,cm,G,Dv,Rf,Nt,Su,Re,Fu,.int .i64 (.ofNat k)],none⟩) G (dZ n m cl al dl).e.length (kE (dZ n m cl al dl).e) (XJ (dZ n m cl al dl) x):=by have:=v2.keep (q:=λ_=>True) (h':=hset σ2.h (J.aj+1+1) ⟨[d0,cm,G,Dv,Rf,Nt,Su,Re,Fu,.int .i64 (.ofNat k)],none⟩) (λb hb=>au _ _ _ _ jb) λ_ _=>trivial;rw[iU,Vy (m:=m),adP (m:=m)]at this;rw[hn];exact this
  obtain⟨Dz,hz⟩:=hPz.aA3 (h.c a)
  have hgz:∀i,i<(dZ n m cl al dl).e.length->∀k,k<kE (dZ n m cl al dl).e i->Sz (XJ (dZ n m cl al dl) x i k):=λi hi k hk=>by have:=hz.gz i (by rw[iU];omega) k (by rw[Vy (m:=m)];exact hk);rw[adP (m:=m)]at this;exact this.sz hz.d (by have:=uM;omega)
  refine(aqm hF3.wf (dZ n m cl al dl) (hg.fr hW hF3) jb (λi hi=>by have:=(h.l.e i hi).c;omega) h.z (Ko (dZ n m cl al dl) (XJ (dZ n m cl al dl) x)) (aa9 hT) (afR hgz) k1 k3 k4 k5 k6 k7 k8).mono ?_
  rintro _ σ4 ⟨⟨b,rfl,hb,hb1⟩,hf4⟩
  rw[hn]at hb⊢
  have hb1:σ2.aj<=b:=hb1
  have hbl:=hf4.wf.lt hb
  have qM:σ2.aj<=σ4.aj:=hf4.le
  have q34:=hf4.get hF3.wf q33
  have q64:=hf4.get hF3.wf q63
  have q74:=hf4.get hF3.wf q73
  have hD4:=aZ.keep (q:=λb=>(p2 b/\b<J.aj)\/(J.aj+1+1+1<=b/\b<σ4.aj)) hD2 (λb hb=>(hf4.old b (by show b<σ2.aj;omega)).trans (au _ _ _ _ jb)) λb hb=>hb.imp_right λh=>⟨h.1,jb⟩
  have hV4:=hV3.keep (q:=λb=>(p2 b/\b<J.aj)\/(J.aj+1+1+1<=b/\b<σ4.aj)) (λb hb=>hf4.old b (by show b<σ2.aj;omega)) λb hb=>hb.imp_right λh=>⟨h.1,jb⟩
  have iK:=hF3.trans hf4
  have hN:aZ (λb=>(p2 b/\b<J.aj)\/(J.aj+1+1+1<=b/\b<σ4.aj)) σ4.h 1 (.sl b 0 n (.ex n)) n λj=>[.bool (shO (dZ n m cl al dl) (Ko (dZ n m cl al dl) (XJ (dZ n m cl al dl) x)) j)]:=bK (G:=λj=>[B.bool (shO (dZ n m cl al dl) (Ko (dZ n m cl al dl) (XJ (dZ n m cl al dl) x)) j)]) _ hb rfl (.inr ⟨jb,hbl⟩) (λ_=>rfl) jj λ_ _=>rfl
  have hTa:BEq n (Yr n (dZ n m cl al dl) m K a) λj=>shO (dZ n m cl al dl) (Ko (dZ n m cl al dl) (XJ (dZ n m cl al dl) x)) j:=by have h1:=SI (m:=m) (c:=K) (a:=a) hG (by rw[hn];exact h.sh hgt);rw[hn]at h1;exact h1.trans λi hi=>(axi jb).symm
  simp(disch:=try exact jz)only[go_sem,W4,ay q74,q74,arV,k1,k2,k3,k4,k5,k6,k7,k8]
  refine(anC hf4.wf jb hN.hl hD4.hl).mono ?_
  rintro _ σ5 ⟨⟨d,rfl,hd⟩,hf5⟩
  have eX:=iK.trans hf5
  have vS:=hf5.le
  have q35:=hf5.get hf4.wf q34
  have q65:=hf5.get hf4.wf q64
  have q75:=hf5.get hf4.wf q74
  cases d with
  |true=>
   have he:=hTa.trans (hd.mp rfl)
   have hl6:=hf5.wf.lt q65
   simp(disch:=try exact jz)only[go_sem,W4,ay q75,q75,arV,k1,k2,k3,k4,k5,k6,k7,k8,q65,aJ q65]
   exact⟨d0,[cm,G,Dv,Rf,Nt,Su,Re,Fu],a,x,k,rfl,⟨aZ.keep hD4 (λb hb=>(au _ _ _ _ jb).trans (hf5.old b jb)) λb hb=>hb.imp_right λh=>⟨h.1,by show b<σ5.aj;omega⟩,hV4.keep (λb hb=>(au _ _ _ _ jb).trans (hf5.old b jb)) λb hb=>hb.imp_right λh=>⟨h.1,by show b<σ5.aj;omega⟩,hPz,h.sh hgt,he⟩,hPa,fr⟩
  |false=>
   have hne:¬BEq n (Yr n (dZ n m cl al dl) m K a) a:=λe=>by have:=hd.mpr (hTa.symm.trans e);cases this
   obtain⟨hP1,hkl⟩:=hP.step a k hPa hne
   have hP2:=hP.ext _ _ _ hTa hP1
   have dk:decide (Int.ofNat n<Int.ofNat k)=false:=ap λh=>by have:=Int.ofNat_lt.mp h;omega
   simp(disch:=try exact jz)only[go_sem,W4,ay q75,q75,hil,arV,k1,k2,k3,k4,k5,k6,k7,k8,dk,aJ q75]
   exact⟨n-(k+1),jb,.sl b 0 n (.ex n),cm,G,Dv,Rf,Nt,Su,Re,Fu,λj=>shO (dZ n m cl al dl) (Ko (dZ n m cl al dl) (XJ (dZ n m cl al dl) x)) j,k+1,rfl,q35,q65,rfl,aZ.keep hN (λb hb=>(au _ _ _ _ jb).trans ((au _ _ _ _ jb).trans (hf5.old b jb))) λb hb=>hb.imp_right λh=>⟨h.1,by show b<σ5.aj;omega⟩,hP2,fr,jb⟩
end
section
variable {n:Nat} {m K:Nat→Rat} {cl:Nat→List C5} {al:Nat→List fD} {dl:List oM}
def DG.mono(h:DG n m K cl al dl):SH n (Yr n (dZ n m cl al dl) m K):=by
 have hn:=iU n m cl al dl;have h1:=ant (g:=dZ n m cl al dl) (m:=m) (c:=K) h.g (λi _=>h.k0 i) (λi hi=>?_) (λa=>by rw[hn];exact h.ex a)
 .rw[hn]at h1;exact h1
 .have:=(h.g.m i hi).2.2.1;rw[BX _ _ _ _ jb,wO]at this;exact this
def Uc.c8{p:Nat->Prop}{h:Tr Bk}{dv:B}{c8:List B}{a:Nat->Bool}{x:Nat->Rat}(hV:Uc p h dv c8 n m K cl al dl a x):∃cm G Dv Rf Nt Su Re Fu,c8=[cm,G,Dv,Rf,Nt,Su,Re,Fu]/\cm.kn=true/\G.kn=true/\Dv.kn=true/\Rf.kn=true/\Nt.kn=true/\Su.kn=true/\Re.kn=true/\Fu.kn=true:=by obtain⟨cm,G,Dv,Rf,Nt,Su,Re,Fu,e,hk⟩:=hV.s.kn8;exact⟨cm,G,Dv,Rf,Nt,Su,Re,Fu,V.agg.inj e,hk⟩
def Uc.keep{p q:Nat->Prop}{h h':Tr Bk}{dv:B}{c8:List B}{a:Nat->Bool}{x:Nat->Rat}(hV:Uc p h dv c8 n m K cl al dl a x)(hk:∀b,p b->h' b=h b)(hq:∀b,p b->q b):Uc q h' dv c8 n m K cl al dl a x:=⟨aZ.keep hV.d hk hq,hV.s.keep hk hq,hV.z,hV.g,hV.t⟩
theorem Uc.fr{J J':St}(hf:Fr J J'){dv:B}{c8:List B}{a:Nat->Bool}{x:Nat->Rat}(hV:Uc (Lt J.aj) J.h dv c8 n m K cl al dl a x):Uc (Lt J'.aj) J'.h dv c8 n m K cl al dl a x:=hV.keep (λb hb=>hf.old b hb) λb hb=>aE hb hf.le
def aA7(J J':St)(r:V)(n:Nat)(m K:Nat->Rat)(cl:Nat->List C5)(al:Nat->List fD)(dl:List oM)(P:(Nat->Bool)->Nat->Prop):Prop:=∃(d0 cm G Dv Rf Nt Su Re Fu:B) (a:Nat->Bool) (x:Nat->Rat) (k:Nat),r=.aU (.agg [d0,cm,G,Dv,Rf,Nt,Su,Re,Fu,.int .i64 (.ofNat k)]) (.aU (jN 0) .tnil)/\Uc (λb=>J.aj<=b/\b<J'.aj) J'.h d0 [cm,G,Dv,Rf,Nt,Su,Re,Fu] n m K cl al dl a x/\P a k/\k<=n/\Fr J J'
def axk{J:St}(hW:WF J){p p1:Nat->Prop}{ev dv cv:B}(h:DG n m K cl al dl)(hg:jY p J.h ev dv (dZ n m cl al dl))(hC:aZ p1 J.h 3 cv n λj=>bY (K j)):
  aB EN 25 [.agg [ev,dv],.c cv] J λr J'=>aA7 J J' r n m K cl al dl (zO n (Yr n (dZ n m cl al dl) m K) λ_=>false):=by
 refine aI (rO.o _ _) rO.h ?_
 unfold rO
 dsimp only
 have hn:=iU n m cl al dl
 have hn4:=h.n4
 have hek:=hg.e.kn
 have hdk:=hg.d.kn
 have hel:=hg.e.len
 rw[hn]at hel
 have hck:=aZ.kn hC
 have hFr:=Fr.refl hW
 have hK:∀j,Sz (K j):=λj=>(h.k j).mono (by unfold szK;omega)
 simp(disch:=try exact jz)only[go_sem,hek,hdk]
 refine aB.st (Fr J) (fr) λhF=>?_
 refine(abe hF.wf (hg.fr hW hF) h.g (by rw[hn];exact aZ.fr hW hF hC) hK λj _=>h.k0 j).mono ?_
 rintro _ σ2 ⟨rfl,hf2⟩
 have hF2:=hF.trans hf2
 have hle2:J.aj+1+1<=σ2.aj:=hf2.le
 have q2:=hf2.get hF.wf ((au _ _ _ _ jb).trans (aA _ _ _))
 have q4:=hf2.get hF.wf (aA _ _ _)
 have hd0:decide ((0:Int)=Int.ofNat 0)=true:=rfl
 have JB:=Fr.refl hf2.wf
 simp(disch:=try exact jz)only[go_sem,hd0,ay q2,q2,hek,hdk,hel,hck]
 refine aB.st (Fr σ2) (fr) λhF3=>?_
 have DY:=hF2.trans hF3
 have hb:=aA σ2.h σ2.aj ⟨ones n λ_=>B.bool false,none⟩
 refine(Kr hF3.wf h (hg.fr hW DY) (aZ.fr hW DY hC) (bK (p:=λb=>b=σ2.aj) (G:=λj=>[B.bool false]) _ hb rfl rfl (λ_=>rfl) jj λ_ _=>rfl) (f:=λ_=>false) (Dt.atd h.mono) (zO.start λi _ e=>by cases e)).mono ?_
 rintro _ σ4 ⟨d0,c8,a,x,k,rfl,hV,hPk,hf4⟩
 obtain⟨cm,G,Dv,Rf,Nt,Su,Re,Fu,rfl,k1,k2,k3,k4,k5,k6,k7,k8⟩:=hV.c8
 have d0k:=aZ.kn hV.d
 have abf:=hF3.trans hf4
 have q44:=abf.get hf2.wf q4
 have iK:=DY.trans hf4
 have hl4:=hf4.wf.lt q44
 simp(disch:=try exact jz)only[go_sem,fh,fW,q44,aJ q44,d0k,k1,k2,k3,k4,k5,k6,k7,k8]
 exact⟨d0,cm,G,Dv,Rf,Nt,Su,Re,Fu,a,x,k,rfl,hV.keep (λb hb=>au _ _ _ _ (by rcases hb with⟨rfl,-⟩|⟨hb,-⟩;omega;have hb:σ2.aj+1+1+1+1<=b:=hb;omega)) (λb hb=>by have h9:σ2.aj+1<=σ4.aj:=hf4.le;rcases hb with⟨rfl,-⟩|⟨hb,hb'⟩;exact⟨by show J.aj<=σ2.aj;omega,h9⟩;have hb:σ2.aj+1+1+1+1<=b:=hb;exact⟨by show J.aj<=b;omega,hb'⟩),hPk,(Dt.atd h.mono).le a k hPk,fr⟩
end
section
variable {n:Nat} {m0 m K:Nat→Rat} {cl:Nat→List C5} {al:Nat→List fD} {dl:List oM}
def abg{m':Nat->Rat}{a a':Nat->Bool}{x x':Nat->Rat}{r:Nat}(h:DG n m K cl al dl)(h':DG n m' K cl al dl)(hle:∀i,i<n->m i<=m' i)(hx:RY (n:=n) (g:=bH (dZ n m cl al dl)) (pJ m K a) x)(ht:BEq n (Yr n (dZ n m cl al dl) m K a) a)
  (hx':RY (n:=n) (g:=bH (dZ n m' cl al dl)) (pJ m' K a') x') (hC:zO n (Yr n (dZ n m' cl al dl) m' K) (λ_=>false) a' r):Ky n a' a/\∀i,i<n->x i<=x' i:=by
 have hn:=iU n m cl al dl
 have hn':=iU n m' cl al dl
 have hgl:bH (dZ n m' cl al dl)=bH (dZ n m cl al dl):=SG
 have hcs:∀b:Nat->Bool,∀i,i<n->pJ m K b i<=pJ m' K b i:=λb i hi=>by
  have:=hle i hi;unfold pJ wR;cases b i with
  |false=>exact this
  |true=>
   simp only[fX]
   have e1:∀q:Rat,(0<=nC q 0)↔0<=q:=λq=>by unfold nC;rcases oN (q-0)with⟨e,h4⟩|⟨e,h4⟩|⟨e,h4⟩<;>rw[e]<;>constructor<;>intro h5<;>first|grind|omega
   simp only[e1]
   split<;>split<;>grind
 have hsh:shG (dZ n m' cl al dl)=shG (dZ n m cl al dl):=by funext x i;unfold shG;rw[Vy (m:=m),adP (m:=m),(aa5 (m:=m') (m':=m) i).1]
 have h1:Ky n a' a:=by
  refine hC.f a ?_ λi _ e=>by cases e
  refine Ky.trans ?_ ht.le;obtain⟨y,hy⟩:=h'.ex a;have e1:=SI (g:=dZ n m' cl al dl) (m:=m') (c:=K) (a:=a) (x:=y) h'.g (by rw[hn'];exact hy);have e2:=SI (g:=dZ n m cl al dl) (m:=m) (c:=K) (a:=a) (x:=x) h.g (by rw[hn];exact hx);rw[hn']at e1;rw[hn]at e2;refine e1.le.trans (Ky.trans ?_ e2.symm.le);rw[hsh];have:=J9 h.g (x:=x) (y:=y) (by rw[hn];exact hx.nn) (by rw[hn];exact adM (hcs a) hx (hgl▸hy));rw[hn]at this;exact this
 refine⟨h1,adM (λi hi=>?_) hx (hgl▸hx')⟩
 have h2:=afM (g:=dZ n m cl al dl) (m:=m) (c:=K) (a:=a') (b:=a) (λi _=>h.k0 i) (λi hi=>by have:=(h.g.m i hi).2.2.1;rw[BX _ _ _ _ jb,wO]at this;exact this) (by rw[hn];exact h1) i (by rw[hn];exact hi)
 have h3:=hcs a' i hi
 grind
def Vz{a a':Nat->Bool}{x x':Nat->Rat}{r r':Nat}(h:DG n m K cl al dl)(hx:RY (n:=n) (g:=bH (dZ n m cl al dl)) (pJ m K a) x)(ht:BEq n (Yr n (dZ n m cl al dl) m K a) a)(hC:zO n (Yr n (dZ n m cl al dl) m K) (λ_=>false) a r)
  (hx':RY (n:=n) (g:=bH (dZ n m cl al dl)) (pJ m K a') x') (ht':BEq n (Yr n (dZ n m cl al dl) m K a') a') (hC':zO n (Yr n (dZ n m cl al dl) m K) (λ_=>false) a' r'):∀i,i<n->x i=x' i:=λi hi=>
 Rat.le_antisymm ((abg h h (λ_ _=>aM) hx ht hx' hC').2 i hi) ((abg h h (λ_ _=>aM) hx' ht' hx hC).2 i hi)
end
section
variable {n:Nat} {m K:Nat→Rat} {cl:Nat→List C5} {al:Nat→List fD} {dl:List oM}
def DG.cp(h:DG n m K cl al dl):cpG (dZ n m cl al dl) (uz (dZ n m cl al dl).e)=dZ n m cl al dl:=by have h1:=h.ch λ_=>false;have e1:ZW (uz (dZ n m cl al dl).e) K (λ_=>false) (dZ n m cl al dl).e.length=uz (dZ n m cl al dl).e:=funext λj=>ae λh=>gN h.2;have e2:pJ m K (λ_=>false)=m:=funext λi=>ae gN;rwa[e1,e2]at h1
def DG.grp(h:DG n m K cl al dl){lo hi:Nat}{hp:Tr Bk}{ov dv:B}(hc:CpG (dZ n m cl al dl) (uz (dZ n m cl al dl).e) lo hp hi ov dv):jY (λ_=>True) hp ov dv (dZ n m cl al dl):=by have:=hc.grp;rwa[h.cp]at this
end
def ntT(g:dV)(x:Nat->Rat):List (List Rat):=Ko g λi c=>NK (bH g) x (i,c)
section
variable {g:dV} {x:Nat→Rat} {D:Nat}
def adO.paid(h:adO D g x)(i k:Nat):Zk D 5001 (qw (ntT g x) i k):=by
 unfold qw ntT;rw[FU];split
 .next hi=>
  rw[Kq hi];split
  .next hk=>
   have hk:k<kE g.e i:=by simpa using hk
   rw[pY _ hk];exact h.nz i hi k hk
  .exact Zk.zero
 .exact Zk.zero
def adO.aA8(h:adO D g x)(l:List Ins.Lg):∀n,Zk D (5001*n) (FV (ntT g x) l n)
 |0=>Zk.zero
 |n+1=>((h.aA8 l n).add (h.paid _ _)).mono jb
theorem adO.tot(h:adO D g x)(hV:VG g):∀d,d<g.d.length->∀n,n<=(ix g.d d).l.length->Sz (FV (ntT g x) (ix g.d d).l n):=λd hd n hn=>
 (h.aA8 _ n).sz h.d (by have:=hV.nl d hd;have:=XI;omega)
end
def ixF(e:Nat)(g:Bool):AF:=⟨19,.seq (.ops [⟨some 4,none,.MH (ki 0)⟩]) (.seq (.seq (.ops [⟨some 6,none,.MH (.t 0)⟩,⟨some 7,none,.len (.t 6)⟩,⟨some 8,none,.MH (ki 0)⟩]) (.block 0 (.loop (.seq (.ops [⟨some 9,none,.bin .lss (.t 8) (.t 7)⟩]) (.seq (.cond (.t 9) .skip (.exit 0)) (.seq (.block 1 (.seq (.ops [⟨some 10,none,.MH (.t 8)⟩,⟨some 5,none,.MH (.t 10)⟩])
 (.seq (.ops [⟨some 11,none,.MH (.t 1)⟩,⟨some 12,none,.MH (.t 0)⟩,⟨some 13,none,.MH (.t 5)⟩,⟨some 14,none,.Ej e (.t 12) (.t 13)⟩,⟨some 15,none,.load e g (.t 14)⟩,⟨some 16,none,.call (.t 11) [.t 15]⟩]) (.cond (.t 16) (.seq (.ops [⟨some 17,none,.MH (.t 5)⟩,⟨some 4,none,.MH (.t 17)⟩]) .ret) .skip)))) (.ops [⟨some 18,none,.bin .add (.t 8) (ki 1)⟩,⟨some 8,none,.MH (.t 18)⟩]))))))) (.seq (.ops [⟨some 4,none,.MH (.k (.c (.int .i64 (.negSucc 0))))⟩]) .ret)),[(4,none)]⟩
def cfF(f:Nat):AF:=⟨9,.seq (.ops [⟨some 4,none,.MH (kb false)⟩]) (.seq (.ops [⟨some 5,none,.MH (.t 0)⟩,⟨some 6,none,.MH (.t 1)⟩,⟨some 7,none,.call (kf f) [.t 5,.t 6]⟩,⟨some 8,none,.bin .geq (.t 7) (ki 0)⟩,⟨some 4,none,.MH (.t 8)⟩]) .ret),[(4,none)]⟩
def RdX(h:Tr Bk)(e:Nat)(g:Bool)(v:B)(n:Nat)(X:Nat->V):Prop:=lenV (.c v)=some (jN n)/\(0<n->∃b o c,v=.sl b o n c/\∀j,j<n->ld h b (o+j*e) e g=some (X j))
theorem aZ.rd{p:Nat->Prop}{h:Tr Bk}{e n:Nat}{v:B}{G:Nat->List B}(hl:aZ p h e v n G):RdX h e true v n λj=>.agg (G j):=
 ⟨hl.hl.len,λhn=>by obtain⟨b,o,c,h1,-,h2⟩:=hl.pos hn;exact⟨b,o,c,h1,h2⟩⟩
def aZ.rd1{p:Nat->Prop}{h:Tr Bk}{n:Nat}{v:B}{G:Nat->B}(hl:aZ p h 1 v n λj=>[G j]):RdX h 1 false v n λj=>.c (G j):=
 ⟨hl.hl.len,λhn=>by obtain⟨b,o,c,h1,h2⟩:=hl.hl.one hn;exact⟨b,o,c,h1,h2⟩⟩
section
variable {f e:Nat} {g:Bool} {J:St} {n:Nat} {v:B} {X:Nat→V} {fn:Nat} {cap:List B} {P:Nat→Bool}
def aA9(b:gJ f)(hb:b.a=ixF e g)(hW:WF J)(hv:RdX J.h e g v n X)(hn:n<=1000000)(hP:∀j,j<n->∀s,Fr J s->aB EN fn (X j::cap.map V.c) s λr s'=>r=.c (.bool (P j))/\Fr s s'):
  aB EN f [.c v,.fn fn cap] J λr J'=>(∃i,r=.c (.int .i64 i)/\(i=.negSucc 0/\(∀j,j<n->P j=false)\/∃k,k<n/\i=.ofNat k/\P k=true/\∀j,j<k->P j=false))/\Fr J J':=by
 refine aI (b.o _ _) b.h ?_
 rw[hb]
 unfold ixF
 have hlen:=hv.1
 simp(disch:=try exact jz)only[go_sem,hlen]
 refine aG (λq tm J'=>∃j,q=n-j/\j<=n/\r8 tm 0=.c v/\r8 tm 1=.fn fn cap/\r8 tm 7=jN n/\r8 tm 8=jN j/\(∀i,i<j->P i=false)/\Fr J J') n ?_ ?_
 .refine⟨0,jb,jb,?_⟩
  refine WP ?_
  exact⟨λi hi=>jb,Fr.refl hW⟩
 .rintro q tm J' ⟨j,rfl,hj,t0,t1,t7,t8,hp,hf⟩
  refine W3 ?_
  refine aH (λhlt=>?_) (λhlt=>?_)
  .obtain⟨b',o,c,rfl,hld⟩:=hv.2 jb
   have hld:=hf.ld hW (hld j hlt)
   simp(disch:=try exact jz)only[go_sem,W4,hld]
   refine(hP j hlt J' hf).mono ?_
   rintro _ σ2 ⟨rfl,hf2⟩
   have hF:=hf.trans hf2
   cases Gz:P j with
   |true=>
    refine W0 ?_
    exact⟨⟨_,rfl,.inr ⟨j,hlt,rfl,Gz,hp⟩⟩,hF⟩
   |false=>
    refine W0 ?_
    exact⟨n-(j+1),jb,j+1,rfl,jb,rfl,λi hi=>by rcases dE i j with h|h;exact hp i h;rw[show i=j by omega];exact Gz,hF⟩
  .have:j=n:=jb
   subst this
   simp(disch:=try exact jz)only[go_sem,t0]
   exact⟨⟨_,rfl,.inl ⟨rfl,hp⟩⟩,hf⟩
def adQ{f':Nat}(b':gJ f')(b:gJ f)(hb':b'.a=cfF f)(hb:b.a=ixF e g)(hW:WF J)(hv:RdX J.h e g v n X)(hn:n<=1000000)(hP:∀j,j<n->∀s,Fr J s->aB EN fn (X j::cap.map V.c) s λr s'=>r=.c (.bool (P j))/\Fr s s'):
  aB EN f' [.c v,.fn fn cap] J λr J'=>(∃d:Bool,r=.c (.bool d)/\(d=true↔∃j,j<n/\P j=true))/\Fr J J':=by
 refine aI (b'.o _ _) b'.h ?_
 rw[hb']
 unfold cfF
 refine WN ?_
 refine(aA9 b hb hW hv hn hP).mono ?_
 rintro _ σ2 ⟨⟨i,rfl,hi⟩,hf⟩
 refine WN ?_
 refine⟨⟨_,rfl,?_⟩,hf⟩
 rcases hi with⟨rfl,h⟩|⟨k,hk,rfl,hP,-⟩
 .exact⟨λh'=>(by cases h'),λ⟨j,hj,h'⟩=>by rw[h j hj]at h';cases h'⟩
 .exact⟨λ_=>⟨k,hk,hP⟩,λ_=>aw (fj k)⟩
end
def SQ{J:St}(hW:WF J){p p':Nat->Prop}{av bv:B}{n:Nat}{f g:Nat->Rat}(ha:kS p J.h av n f)(hb:kS p' J.h bv n g)(hn:n<=1000)(he:∀i,i<n->f i=g i):
  aB EN 23 [.c av,.c bv] J λr J'=>r=.c (.bool true)/\Fr J J':=by
 refine aI (AV.o _ _) AV.h ?_
 unfold AV
 dsimp only
 have hla:=aZ.len ha
 have hlb:=aZ.len hb
 have hka:=aZ.kn ha
 have hkb:=aZ.kn hb
 have hFr:=Fr.refl hW
 have hd0:decide (Int.ofNat n=Int.ofNat n)=true:=aw rfl
 simp(disch:=try exact jz)only[go_sem,hla,hlb,hd0]
 refine aG (λx tm J'=>∃j,x=n-j/\j<=n/\r8 tm 0=.c av/\r8 tm 1=.c bv/\r8 tm 5=jN j/\Fr J J') n ?_ ?_
 .refine⟨0,jb,jb,?_⟩
  refine WP ?_
  exact hFr
 .rintro x tm J' ⟨j,rfl,hj,t0,t1,t5,hF⟩
  simp(disch:=try exact jz)only[go_sem,W4,hla,aC]
  refine aH (λhlt=>?_) (λhlt=>?_)
  .obtain⟨b5,o5,c5,rfl,-,bD⟩:=aZ.at3 ha hlt
   obtain⟨b6,o6,c6,rfl,-,bV⟩:=aZ.at3 hb hlt
   have bD:=hF.ld hW bD
   have bV:=hF.ld hW bV
   have hq:decide (f j=g j)=true:=aw (he j hlt)
   have lM:=Fr.refl hF.wf
   simp(disch:=try exact jz)only[go_sem,W4,bD,bV,hq]
   exact⟨n-(j+1),jb,j+1,rfl,jb,rfl,hF⟩
  .refine WP ?_
   exact hF
end Go.Proofs.Xe
