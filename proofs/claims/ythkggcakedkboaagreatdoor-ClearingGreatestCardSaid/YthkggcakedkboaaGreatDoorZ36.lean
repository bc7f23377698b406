import Derived.Test.YthkggcakedkboaaGreatDoorZ35
set_option linter.all false
set_option maxRecDepth 100000
set_option maxHeartbeats 8000000
noncomputable section
namespace Go.Proofs.Xe
open Go.RowKit Go.Proofs.Ins
def Ac(l:List Rat):Option Rat:=l.foldl Ym none
def RF(l:List Rat)(q:Rat):Ac (l++[q])=Ym (Ac l) q:=by grind[Ac]
def JH:∀(l:List Rat) (m:Rat),∃k,l.foldl Ym (some m)=some k/\(k=m\/k∈l)/\k<=m/\∀v∈l,k<=v
 |[],m=>⟨m,rfl,.inl rfl,be,λv hv=>by cases hv⟩
 |a::l,m=>by
  rw[List.foldl_cons];by_cases h:a<m
  .rw[show Ym (some m) a=some a from ab h];obtain⟨k,h1,h2,h3,h4⟩:=JH l a;grind
  .rw[show Ym (some m) a=some m from ae h];obtain⟨k,h1,h2,h3,h4⟩:=JH l m;grind
def Vg(l:List Rat):(l=[]/\Ac l=none)\/∃m,Ac l=some m/\m∈l/\∀v∈l,m<=v:=by
 cases l with
 |nil=>exact .inl ⟨rfl,rfl⟩
 |cons a l=>
  obtain⟨k,h1,h2,h3,h4⟩:=JH l a
  refine .inr ⟨k,h1,?_,λv hv=>?_⟩
  .grind
  grind
theorem VB.uniq{e:dZ}{n:Nat}{z x:Rat}{o o':Option Rat}(h:VB e n z x o)(h':VB e n z x o'):o=o':=by
 induction h with
 |no h=>cases h' with
  |no=>rfl
  |stop h2=>grind
  |go h2=>grind
 |stop h hs=>cases h' with
  |no h2=>grind
  |stop h2=>grind
  |go h2 hs2=>grind
 |go h hs _ ih=>cases h' with
  |no h2=>grind
  |stop h2 hs2=>grind
  |go h2 _ hr=>grind
open Classical in
def nxE(e:dZ)(n:Nat)(x:Rat):Option Rat:=if h:∃o,VB e n x x o then h.choose else none
def ajH{e:dZ}{n:Nat}{x:Rat}{o:Option Rat}(h:VB e n x x o):nxE e n x=o:=by
 have h2:∃o,VB e n x x o:=⟨o,h⟩
 grind[nxE,VB.uniq]
def mJ(g:gU)(x:Nat->Rat)(i:Nat):Option Rat:=(nxE (dF (ix g.e i)) (kE g.e i) (x i)).map λy=>y-x i
theorem RH{W:Rat}{q r:fC->Rat}:∀(t:List fC) (a:fC) (Q R:Rat),qw W q r Q R (t++[a])=qw W q r Q R t++(if Q+aI t q+q a<W/\0<R+aI t r+r a then [(W-(Q+aI t q+q a))/(R+aI t r+r a)]else [])
 |[],a,Q,R=>by show(if _ then _ else _)++[]=[]++_;simp_all[aI,cY]
 |b::t,a,Q,R=>by show(if _ then _ else _)++qw W q r _ _ (t++[a])=((if _ then _ else _)++qw W q r _ _ t)++_;rw[RH t a,ie];have e1:aI (b::t) q=q b+aI t q:=rfl;have e2:aI (b::t) r=r b+aI t r:=rfl;rw[e1,e2,fa Q,fa R]
def Vh(g:gU)(x d:Nat->Rat)(j:Nat):List Rat:=A8 (mJ g x) d g.e.length++((bD g).ds.take j).flatMap λd'=>qw d'.1 (gq (bD g) x) (gr (bD g) x d) 0 0 d'.2
def DK(g:gU)(x d:Nat->Rat)(j k:Nat):List Rat:=Vh g x d j++qw (dW g j) (gq (bD g) x) (gr (bD g) x d) 0 0 ((dL g j).take k)
def afa(g:gU)(x d:Nat->Rat)(j:Nat):DK g x d j 0=Vh g x d j:=by unfold DK;rw[cK];exact dx _
def ajI(g:gU)(x d:Nat->Rat){j:Nat}(h:j<g.d.length):DK g x d j (dL g j).length=Vh g x d (j+1):=by grind[DK,Vh,take_snoc,xR,OJ]
def afb(g:gU)(x d:Nat->Rat){j k:Nat}(h:k<(dL g j).length):DK g x d j (k+1)=DK g x d j k++(if aI ((dL g j).take (k+1)) (gq (bD g) x)<dW g j/\0<aI ((dL g j).take (k+1)) (gr (bD g) x d)then [(dW g j-aI ((dL g j).take (k+1)) (gq (bD g) x))/aI ((dL g j).take (k+1)) (gr (bD g) x d)]else []):=by grind[DK,take_snoc,RH,mM]
structure NrN(D:Nat)(g:gU)(x d:Nat->Rat):Prop where
 m:U3 D g x
 nn:∀i,i<g.e.length->Bl (dF (ix g.e i))/\0<=x i
 dz:∀i,i<g.e.length->Sz (d i)
 nx:∀i,i<g.e.length->0<d i->∃S:Rat->Prop,S (x i)/\(∀m,S m->∃D,Ap D/\EOk D (kE g.e i) (dF (ix g.e i))/\MOk D (dF (ix g.e i)) m/\ROk D (dF (ix g.e i)) m/\SOk (dF (ix g.e i)) m)/\∀m t,S m->Ie (dF (ix g.e i)) m=some t->S (m+t)
 ny:∀i,i<g.e.length->0<d i->∀y,nxE (dF (ix g.e i)) (kE g.e i) (x i)=some y->Sz y/\Sz (y-x i)/\Sz ((y-x i)/d i)
 c1:∀i,i<=g.e.length->Sz (gq0 (Ac (A8 (mJ g x) d i)))
 c2:∀j,j<g.d.length->∀k,k<=(dL g j).length->Sz (gq0 (Ac (DK g x d j k)))/\Sz (dW g j-aI ((dL g j).take k) (gq (bD g) x))/\Sz (aI ((dL g j).take k) (gr (bD g) x d))
  /\Sz ((dW g j-aI ((dL g j).take k) (gq (bD g) x))/aI ((dL g j).take k) (gr (bD g) x d))
 c3:∀j,j<g.d.length->∀l∈dL g j,Sz (gq (bD g) x l)/\Sz (gs (bD g) x l.1 l)/\Sz (gr (bD g) x d l)
def RI{σ:St}(hW:WF σ){sb:Nat}{g:gU}{x d:Nat->Rat}(hs:DC (Lt σ.aj) σ.h sb g){p:Nat->Prop}{xv YH Dv Sv:B}(hx:iL p σ.h xv g.e.length x)(hd:iL p σ.h YH g.e.length d)(hDv:dP p σ.h Dv g.e.length (kE g.e) (P7 g x))(hSv:dP p σ.h Sv g.e.length (kE g.e) (Ky g x)){D:Nat}(hN:NrN D g x d):
  aC EN 71 [.c (.ptr sb 0),.c xv,.c YH,.agg [Dv,Sv]] σ λr σ'=>r=.aX (.agg [.bool (rn (gq0 (Ac (jR g.e.length (bD g) (mJ g x) x d)))),.str (rs (gq0 (Ac (jR g.e.length (bD g) (mJ g x) x d)))),.str (rd (gq0 (Ac (jR g.e.length (bD g) (mJ g x) x d))))]) (.aX (.c (.bool (Ac (jR g.e.length (bD g) (mJ g x) x d)).isSome)) .tnil)/\Fr σ σ':=by
 refine aO (jE.o _ _) jE.h ?_
 unfold jE
 dsimp only
 have hs':=hs
 obtain⟨⟨ev,gv,lv,bv,hsb,hg,⟨R,P,hL1,hL2⟩,hB⟩,hsl⟩:=hs
 have YK:=hN.m.A.s
 have hn:=YK.n
 have hnd:=YK.d
 have hD:=YK.hD
 have hlk:=hL1.kn
 have hll:=hL1.len
 have hlD:=hg.d.len
 have hdk:=hg.d.kn
 have k1:=hDv.kn
 have k2:=hSv.kn
 have hsl:sb<σ.aj:=hsl
 have hFr:=Fr.refl hW
 simp(disch:=try exact jz) only[go_sem,z3,k1,k2,ak hsb,hll,hlk]
 refine bI.mono (Q:=λex tm σ'=>ex=.exit 0/\Tr.ah tm 0=.c (.ptr sb 0)/\Tr.ah tm 2=.c YH/\Tr.ah tm 7=.c (.ptr σ.aj 0)/\Tr.ah tm 8=.c (.ptr (σ.aj+1) 0)/\Tr.ah tm 10=.c (.ptr (σ.aj+1+1) 0)/\Tr.ah tm 11=.c (.ptr (σ.aj+1+1+1) 0)/\Tr.ah tm 12=.fn 114 [.ptr (σ.aj+1+1+1) 0,.ptr (σ.aj+1+1) 0]
   /\σ'.h σ.aj=some ⟨[Dv,Sv],none⟩/\σ'.h (σ.aj+1)=some ⟨[.bool (rn 0),.str (rs 0),.str (rd 0)],none⟩/\Ql σ'.h (σ.aj+1+1+1) (σ.aj+1+1) (Ac (A8 (mJ g x) d g.e.length))/\Fr σ σ'/\σ.aj+1+1+1+1<=σ'.aj)
  (aF (λq tm σ'=>∃i,q=g.e.length-i/\i<=g.e.length/\Tr.ah tm 0=.c (.ptr sb 0)/\Tr.ah tm 1=.c xv/\Tr.ah tm 2=.c YH/\Tr.ah tm 7=.c (.ptr σ.aj 0)/\Tr.ah tm 8=.c (.ptr (σ.aj+1) 0)/\Tr.ah tm 10=.c (.ptr (σ.aj+1+1) 0)/\Tr.ah tm 11=.c (.ptr (σ.aj+1+1+1) 0)/\Tr.ah tm 12=.fn 114 [.ptr (σ.aj+1+1+1) 0,.ptr (σ.aj+1+1) 0]
   /\Tr.ah tm 27=.c lv/\Tr.ah tm 28=.c (.int .i64 (.ofNat g.e.length))/\Tr.ah tm 29=.c (.int .i64 (.ofNat i))/\σ'.h σ.aj=some ⟨[Dv,Sv],none⟩/\σ'.h (σ.aj+1)=some ⟨[.bool (rn 0),.str (rs 0),.str (rd 0)],none⟩/\Ql σ'.h (σ.aj+1+1+1) (σ.aj+1+1) (Ac (A8 (mJ g x) d i))/\Fr σ σ'/\σ.aj+1+1+1+1<=σ'.aj) g.e.length ?_ ?_) ?_
 .refine⟨0,jb,jb,?_⟩
  simp(disch:=try exact jz) only[go_sem,z3,am]
  refine⟨⟨aA _ _ _,?_⟩,fr,jb⟩
  rw[au _ _ _ _ jb,au _ _ _ _ jb,aA]
  rfl
 .rintro q tm σ' ⟨i,rfl,hi,t0,t1,t2,t7,t8,t10,t11,t12,t27,t28,t29,q7,q8,hO,hf,hnx⟩
  have hle:=hf.le
  have jr:=Fr.refl hf.wf
  simp(disch:=try exact jz) only[go_sem,z3,t0,t1,t2,t7,t8,t10,t11,t12,t27,t28,t29,aG]
  refine aH (λhlt=>?_) (λhlt=>?_)
  .obtain⟨b5,o5,c5,rfl,-,bK⟩:=hL1.pos jb
   have hLi:=hL2 i hlt
   have hRk:=hLi.rk.kn
   have hPk:=hLi.VD
   obtain⟨he1,he2,-,-⟩:=YK.e i hlt
   have bK:=hf.ld hW (bK i hlt)
   obtain⟨b6,o6,c6,e6,-,bW⟩:=aY.at3 hd hlt
   obtain⟨b7,o7,c7,e7,-,dJ⟩:=aY.at3 hx hlt
   have ayS:=hW.cO bW
   have avx:=hW.cO dJ
   have bW:=hf.ld hW bW
   have dJ:=hf.ld hW dJ
   have a6:V.c (.sl b6 o6 g.e.length c6)=V.c YH:=by rw[e6]
   have a7:V.c (.sl b7 o7 g.e.length c7)=V.c xv:=by rw[e7]
   rw[e6]at t2
   rw[e7]at t1
   have hb6:=hf.wf.cO bW
   have hb7:=hf.wf.cO dJ
   have hb5:=hf.wf.cO bK
   have z1:=hN.dz i hlt
   unfold jA at bK
   by_cases hp:0<d i
   .have hl7:=hf.wf.lt q7
    obtain⟨S,s1,s2,s3⟩:=hN.nx i hlt hp
    obtain⟨n1,n2⟩:=hN.nn i hlt
    have hzO:=hN.c1 i hi
    obtain⟨Dx,-,-,zx,-,-⟩:=s2 _ s1
    have zx:=zx.hm
    simp(disch:=try exact jz) only[go_sem,z3,t0,t1,t2,t7,t8,t10,t11,t12,t27,t28,t29,bK,bW,dJ,hRk,hPk,hp]
    refine aC.st (Fr σ') (fr) λig=>?_
    have hf5:=hf.trans ig
    refine(ark ig.wf _ (dF (ix g.e i)) ((hLi.keep (λb hb=>hf5.old b hb) λ_ h=>h).lay) (x i) n1 n2 S s1 s2 s3).mono ?_
    rintro _ σ6 ⟨⟨o,ho,rfl⟩,iE⟩
    have lC:=ig.trans iE
    have aas:=hf.trans lC
    have zW:σ'.aj+1+1<=σ6.aj:=iE.le
    have hy6:σ6.h (σ'.aj+1)=some ⟨[.bool (rn 0),.str (rs 0),.str (rd 0)],none⟩:=iE.get ig.wf (aA _ _ _)
    have q76:=lC.get hf.wf q7
    have q86:=lC.get hf.wf q8
    have hO6:Ql σ6.h (σ.aj+1+1+1) (σ.aj+1+1) (Ac (A8 (mJ g x) d i)):=⟨lC.get hf.wf hO.f,lC.get hf.wf hO.o⟩
    have avy:=lC.ld hf.wf bW
    have avz:=lC.ld hf.wf dJ
    have hno:=ajH ho
    cases o with
    |none=>
     have hds:mJ g x i=none:=by unfold mJ;rw[hno];rfl
     have hcn:A8 (mJ g x) d (i+1)=A8 (mJ g x) d i:=by show _++_=_;rw[ab hp,hds,dx]
     unfold arj
     simp(disch:=try exact jz) only[go_sem,z3,t0,t1,t2,t7,t8,t10,t11,t12,t27,t28,t29,ak hy6,hy6,aJ hy6]
     have hW6:=iE.wf
     refine⟨g.e.length-(i+1),jb,i+1,rfl,jb,a7,a6,rfl,q76,q86,?_,fr,jb⟩
     rw[hcn]
     exact⟨(au _ _ _ _ jb).trans hO6.f,(au _ _ _ _ jb).trans hO6.o⟩
    |some y=>
     have hds:mJ g x i=some (y-x i):=by unfold mJ;rw[hno];rfl
     have hcn:A8 (mJ g x) d (i+1)=A8 (mJ g x) d i++[(y-x i)/d i]:=by show _++_=_;rw[ab hp,hds]
     obtain⟨y1,y2,y3⟩:=hN.ny i hlt hp y hno
     unfold arj
     simp(disch:=try exact jz) only[go_sem,z3,t0,t1,t2,t7,t8,t10,t11,t12,t27,t28,t29,ak hy6,hy6,aJ hy6,avy,avz]
     refine aC.st (Fr σ') (by have hW6:=iE.wf;exact fr) λrW=>?_
     have hO7:Ql (hset σ6.h (σ'.aj+1) ⟨[.bool (rn y),.str (rs y),.str (rd y)],none⟩) (σ.aj+1+1+1) (σ.aj+1+1) (Ac (A8 (mJ g x) d i)):=⟨(au _ _ _ _ jb).trans hO6.f,(au _ _ _ _ jb).trans hO6.o⟩
     refine(ajG rW.wf hO7 jb y2 z1 hp y3 hzO).mono ?_
     rintro v8 σ8 ⟨hO8,qp⟩
     rw[<-RF,<-hcn]at hO8
     have ai4:σ6.aj<=σ8.aj:=qp.le
     have Lh:=aU.to (hf.trans rW) qp λb hb=>by simp at hb;omega
     have avA:=qp.ld rW.wf (by simp<;>omega) (rW.ld hf.wf bW)
     have q78:=qp.get rW.wf (by simp<;>omega) (rW.get hf.wf q7)
     have q88:=qp.get rW.wf (by simp<;>omega) (rW.get hf.wf q8)
     simp(disch:=try exact jz) only[go_sem,z3,t0,t1,t2,t7,t8,t10,t11,t12,t27,t28,t29,avA]
     exact⟨g.e.length-(i+1),jb,i+1,rfl,jb,a7,a6,rfl,q78,q88,hO8,Lh,jb⟩
   .have hcn:A8 (mJ g x) d (i+1)=A8 (mJ g x) d i:=by show _++_=_;rw[ae hp,dx]
    simp(disch:=try exact jz) only[go_sem,z3,t0,t1,t2,t7,t8,t10,t11,t12,t27,t28,t29,bK,bW,hRk,hPk,hp]
    refine⟨g.e.length-(i+1),jb,i+1,rfl,jb,a7,a6,rfl,q7,q8,?_,fr,jb⟩
    rw[hcn]
    have hl7:=hf.wf.lt q7
    refine⟨?_,?_⟩
    .repeat rw[au _ _ _ _ jb]
     exact hO.f
    .repeat rw[au _ _ _ _ jb]
     exact hO.o
  .have:i=g.e.length:=jb
   subst this
   simp(disch:=try exact jz) only[go_sem,z3,am]
   exact⟨t0,t2,t7,t8,t10,t11,t12,q7,q8,hO,hf,hnx⟩
 rintro _ tm σ3 ⟨rfl,t0,t2,t7,t8,t10,t11,t12,q7,q8,hO,hf3,hn3⟩
 have hle3:=hf3.le
 have aiF:=hf3.get hW hsb
 have hcz:A8 (mJ g x) d g.e.length=Vh g x d 0:=by unfold Vh;rw[cK];exact(dx _).symm
 rw[hcz]at hO
 simp(disch:=try exact jz) only[go_sem,z3,t0,t2,t7,t8,t10,t11,t12,ak aiF,hlD,hdk]
 refine aF (λq tm σ'=>∃j,q=g.d.length-j/\j<=g.d.length/\Tr.ah tm 2=.c YH/\Tr.ah tm 7=.c (.ptr σ.aj 0)/\Tr.ah tm 8=.c (.ptr (σ.aj+1) 0)/\Tr.ah tm 10=.c (.ptr (σ.aj+1+1) 0)/\Tr.ah tm 11=.c (.ptr (σ.aj+1+1+1) 0)/\Tr.ah tm 12=.fn 114 [.ptr (σ.aj+1+1+1) 0,.ptr (σ.aj+1+1) 0]
   /\Tr.ah tm 67=.c gv/\Tr.ah tm 68=.c (.int .i64 (.ofNat g.d.length))/\Tr.ah tm 69=.c (.int .i64 (.ofNat j))
   /\σ'.h σ.aj=some ⟨[Dv,Sv],none⟩/\σ'.h (σ.aj+1)=some ⟨[.bool (rn 0),.str (rs 0),.str (rd 0)],none⟩/\Ql σ'.h (σ.aj+1+1+1) (σ.aj+1+1) (Ac (Vh g x d j))/\Fr σ σ'/\σ.aj+1+1+1+1<=σ'.aj) g.d.length ?_ ?_
 .refine⟨0,jb,jb,?_⟩
  simp(disch:=try exact jz) only[go_sem,z3,t2,t7,t8,t10,t11,t12,am]
  exact⟨q7,q8,hO,hf3,hn3⟩
 .rintro q tm σ' ⟨j,rfl,hj,t2,t7,t8,t10,t11,t12,t67,t68,t69,q7,q8,hO,hf,hnx⟩
  have hle:=hf.le
  simp(disch:=try exact jz) only[go_sem,z3,t2,t7,t8,t10,t11,t12,t67,t68,t69,aG]
  refine aH (λhlt=>?_) (λhlt=>?_)
  .obtain⟨b5,o5,c5,rfl,L1,bK,hL⟩:=hg.d.el hlt
   have bK:=hf.ld hW bK
   have hLk:=aY.kn hL
   have hlL:=aY.len hL
   obtain⟨hlen,Iy⟩:=YK.l j hlt
   obtain⟨hwf,hw0,hwz⟩:=YK.w j hlt
   have jr:=Fr.refl hf.wf
   have hw2:=nY hwf
   have hmx:Hr (rq (ix g.d j).w.n (ix g.d j).w.s (ix g.d j).w.d) 0=dW g j:=by rw[aau];exact Ju hw0
   generalize hm:(ix g.d j).l.length=m at*
   have hdl:(dL g j).length=m:=(JA g j).trans hm
   have ai9:lenV (.c L1)=some (.c (.int .i64 (.ofNat m))):=hlL
   have hl7:=hf.wf.lt q7
   have hl8:=hf.wf.lt q8
   have hlf:=hf.wf.lt hO.f
   have hlo:=hf.wf.lt hO.o
   simp(disch:=try exact jz) only[go_sem,z3,t2,t7,t8,t10,t11,t12,t67,t68,t69,bK,hLk,ai9,hmx]
   refine bI.st (Fr σ') (fr) λig=>?_
   have hf5:=hf.trans ig
   have yT:=ig.le
   refine bI.mono (Q:=λex tm σ4=>ex=.exit 4/\Tr.ah tm 2=.c YH/\Tr.ah tm 7=.c (.ptr σ.aj 0)/\Tr.ah tm 8=.c (.ptr (σ.aj+1) 0)/\Tr.ah tm 10=.c (.ptr (σ.aj+1+1) 0)/\Tr.ah tm 11=.c (.ptr (σ.aj+1+1+1) 0)/\Tr.ah tm 12=.fn 114 [.ptr (σ.aj+1+1+1) 0,.ptr (σ.aj+1+1) 0]
    /\Tr.ah tm 67=.c (.sl b5 o5 g.d.length c5)/\Tr.ah tm 68=.c (.int .i64 (.ofNat g.d.length))/\Tr.ah tm 69=.c (.int .i64 (.ofNat j))/\σ4.h σ.aj=some ⟨[Dv,Sv],none⟩/\σ4.h (σ.aj+1)=some ⟨[.bool (rn 0),.str (rs 0),.str (rd 0)],none⟩/\Ql σ4.h (σ.aj+1+1+1) (σ.aj+1+1) (Ac (DK g x d j m))/\Fr σ σ4/\σ.aj+1+1+1+1<=σ4.aj)
    (aF (λq tm σ4=>∃k,q=m-k/\k<=m/\Tr.ah tm 2=.c YH/\Tr.ah tm 7=.c (.ptr σ.aj 0)/\Tr.ah tm 8=.c (.ptr (σ.aj+1) 0)/\Tr.ah tm 10=.c (.ptr (σ.aj+1+1) 0)/\Tr.ah tm 11=.c (.ptr (σ.aj+1+1+1) 0)/\Tr.ah tm 12=.fn 114 [.ptr (σ.aj+1+1+1) 0,.ptr (σ.aj+1+1) 0]
     /\Tr.ah tm 19=.c (.ptr (σ'.aj+1) 0)/\Tr.ah tm 20=.c (.ptr (σ'.aj+1+1) 0)/\Tr.ah tm 67=.c (.sl b5 o5 g.d.length c5)/\Tr.ah tm 68=.c (.int .i64 (.ofNat g.d.length))/\Tr.ah tm 69=.c (.int .i64 (.ofNat j))/\Tr.ah tm 79=.c L1/\Tr.ah tm 80=.c (.int .i64 (.ofNat m))/\Tr.ah tm 81=.c (.int .i64 (.ofNat k))
     /\σ4.h σ.aj=some ⟨[Dv,Sv],none⟩/\σ4.h (σ.aj+1)=some ⟨[.bool (rn 0),.str (rs 0),.str (rd 0)],none⟩/\σ4.h (σ'.aj+1)=some ⟨[.bool (rn (dW g j-aI ((dL g j).take k) (gq (bD g) x))),.str (rs (dW g j-aI ((dL g j).take k) (gq (bD g) x))),.str (rd (dW g j-aI ((dL g j).take k) (gq (bD g) x)))],none⟩
     /\σ4.h (σ'.aj+1+1)=some ⟨[.bool (rn (aI ((dL g j).take k) (gr (bD g) x d))),.str (rs (aI ((dL g j).take k) (gr (bD g) x d))),.str (rd (aI ((dL g j).take k) (gr (bD g) x d)))],none⟩/\Ql σ4.h (σ.aj+1+1+1) (σ.aj+1+1) (Ac (DK g x d j k))/\Fr σ σ4/\σ'.aj+1+1+1<=σ4.aj) m ?_ ?_) ?_
   .refine⟨0,jb,jb,?_⟩
    simp(disch:=try exact jz) only[go_sem,z3,t2,t7,t8,t10,t11,t12,t67,t68,t69,am,cK]
    have e1:dW g j-aI ([]:List fC) (gq (bD g) x)=dW g j:=by show dW g j-0=dW g j;grind
    rw[e1,afa]
    refine⟨q7,q8,rfl,rfl,⟨?_,?_⟩,hf5,jb⟩
    .repeat rw[au _ _ _ _ jb]
     exact hO.f
    .repeat rw[au _ _ _ _ jb]
     exact hO.o
   .rintro q V6 σ4 ⟨k,rfl,hk,t2,t7,t8,t10,t11,t12,t19,t20,t67,t68,t69,t79,t80,zZ,q7,q8,q19,q20,hO,hf4,hn4⟩
    simp(disch:=try exact jz) only[go_sem,z3,t2,t7,t8,t10,t11,t12,t19,t20,t67,t68,t69,t79,t80,zZ,aG]
    refine aH (λhltk=>?_) (λhltk=>?_)
    .obtain⟨b8,o8,c8,e8,-,kZ⟩:=aY.pos hL (show 0<(ix g.d j).l.length by omega)
     have kZ:=hf4.ld hW (kZ k jb)
     rw[hm]at e8
     rw[e8]at t79
     have a8:V.c (.sl b8 o8 m c8)=V.c L1:=by rw[e8]
     obtain⟨e,c,EH,he,hc⟩:=Iy k hltk
     unfold KP at kZ
     rw[EH]at kZ
     have hlk2:k<(dL g j).length:=jb
     have hix:ix (dL g j) k=(e,c):=by rw[aiQ (by omega:k<(ix g.d j).l.length),EH];rfl
     have hmem:(e,c)∈dL g j:=by rw[<-hix];exact fO hlk2
     obtain⟨b9,o9,c9,T,eD,-,OU,hT⟩:=hDv.at he
     obtain⟨ba,oa,ca,rfl,-,afc⟩:=aY.at3 hT hc
     obtain⟨bb,ob,cb,T2,eS,-,Yl,hT2⟩:=hSv.at he
     obtain⟨bc,oc,cc,rfl,-,afd⟩:=aY.at3 hT2 hc
     obtain⟨bd,od,cd,e6,-,afe⟩:=aY.at3 hd he
     have ayT:=hW.cO OU
     have ayU:=hW.cO afc
     have ayV:=hW.cO Yl
     have ayW:=hW.cO afd
     have hbd0:=hW.cO afe
     have vC:=hf4.le
     have OU:=hf4.ld hW OU
     have afc:=hf4.ld hW afc
     have Yl:=hf4.ld hW Yl
     have afd:=hf4.ld hW afd
     have afe:=hf4.ld hW afe
     rw[eD,eS]at q7
     rw[e6]at t2
     have a6:V.c (.sl bd od g.e.length cd)=V.c YH:=by rw[e6]
     obtain⟨w1,w2,w3,-⟩:=hN.c2 j hlt k jb
     obtain⟨v1,v2,v3,v4⟩:=hN.c2 j hlt (k+1) jb
     obtain⟨u1,u2,u3⟩:=hN.c3 j hlt _ hmem
     have u1:Sz (P7 g x e c):=u1
     have u2:Sz (Ky g x e c):=by have:gs (bD g) x (e,c).1 (e,c)=Ky g x e c:=ab rfl;rw[<-this];exact u2
     have u3:Sz (Ky g x e c*d e):=u3
     have u4:=hN.dz e he
     have s1:dW g j-aI ((dL g j).take k) (gq (bD g) x)-P7 g x e c=dW g j-aI ((dL g j).take (k+1)) (gq (bD g) x):=by rw[take_snoc hlk2,mM,hix];show _-P7 g x e c=_-(_+P7 g x e c);grind
     have s2:aI ((dL g j).take k) (gr (bD g) x d)+Ky g x e c*d e=aI ((dL g j).take (k+1)) (gr (bD g) x d):=by rw[take_snoc hlk2,mM,hix];rfl
     have hsc:=afb g x d hlk2
     have Dy:=Fr.refl hf4.wf
     generalize hA:dW g j-aI ((dL g j).take (k+1)) (gq (bD g) x)=A at*
     generalize hB:aI ((dL g j).take (k+1)) (gr (bD g) x d)=Bq at*
     have zA:=v2
     have zB:=v3
     rw[<-s1]at v2
     rw[<-s2]at v3
     have g7:∀b,b≠σ4.aj->b≠σ'.aj+1->b≠σ'.aj+1+1->(hset (hset (hset (hset σ4.h σ4.aj ⟨[.int .i64 (.ofNat 0),.int .i64 (.ofNat 0)],none⟩) σ4.aj ⟨[.int .i64 (.ofNat e),.int .i64 (.ofNat c)],none⟩) (σ'.aj+1) ⟨[.bool (rn A),.str (rs A),.str (rd A)],none⟩) (σ'.aj+1+1) ⟨[.bool (rn Bq),.str (rs Bq),.str (rd Bq)],none⟩) b=σ4.h b:=λb k1 k2 k3=>by rw[au _ _ _ _ k3,au _ _ _ _ k2,au _ _ _ _ k1,au _ _ _ _ k1]
     have hO7:Ql (hset (hset (hset (hset σ4.h σ4.aj ⟨[.int .i64 (.ofNat 0),.int .i64 (.ofNat 0)],none⟩) σ4.aj ⟨[.int .i64 (.ofNat e),.int .i64 (.ofNat c)],none⟩) (σ'.aj+1) ⟨[.bool (rn A),.str (rs A),.str (rd A)],none⟩) (σ'.aj+1+1) ⟨[.bool (rn Bq),.str (rs Bq),.str (rd Bq)],none⟩) (σ.aj+1+1+1) (σ.aj+1+1) (Ac (DK g x d j k)):=⟨(g7 _ jb jb jb).trans hO.f,(g7 _ jb jb jb).trans hO.o⟩
     by_cases h1:0<A
     .by_cases h2:0<Bq
      .simp(disch:=try exact jz) only[go_sem,z3,t2,t7,t8,t10,t11,t12,t19,t20,t67,t68,t69,t79,t80,zZ,kZ,OU,afc,Yl,afd,afe,ak q7,ak q19,q19,aJ q19,ak q20,q20,aJ q20,s1,s2,h1,h2]
       refine aC.st (Fr σ) (fr) λrW=>?_
       refine(ajG rW.wf hO7 jb zA zB h2 v4 w1).mono ?_
       rintro v8 σ8 ⟨hO8,qp⟩
       have hcn:DK g x d j (k+1)=DK g x d j k++[A/Bq]:=by rw[hsc,ab ⟨by grind,h2⟩]
       rw[<-RF,<-hcn]at hO8
       have ai4:σ4.aj+1<=σ8.aj:=qp.le
       have Lh:=aU.to rW qp λb hb=>by simp at hb;omega
       have q78:=qp.get rW.wf (by simp<;>omega) ((g7 _ jb jb jb).trans q7)
       have q88:=qp.get rW.wf (by simp<;>omega) ((g7 _ jb jb jb).trans q8)
       have axD:=qp.get rW.wf (by simp<;>omega) ((au _ _ _ _ (show σ'.aj+1≠σ'.aj+1+1 by omega)).trans (aA _ _ _))
       have axE:=qp.get rW.wf (by simp<;>omega) (aA _ _ _)
       simp(disch:=try exact jz) only[go_sem,z3,t2,t7,t8,t10,t11,t12,t19,t20,t67,t68,t69,t79,t80,zZ]
       refine⟨m-(k+1),jb,k+1,rfl,jb,a6,a8,rfl,?_,q88,?_,?_,?_,Lh,jb⟩
       .rw[eD,eS];exact q78
       .rw[hA];exact axD
       .rw[hB];exact axE
       .exact hO8
      .simp(disch:=try exact jz) only[go_sem,z3,t2,t7,t8,t10,t11,t12,t19,t20,t67,t68,t69,t79,t80,zZ,kZ,OU,afc,Yl,afd,afe,ak q7,ak q19,q19,aJ q19,ak q20,q20,aJ q20,s1,s2,h1,h2]
       have hcn:DK g x d j (k+1)=DK g x d j k:=by rw[hsc,ae λh=>h2 h.2,dx]
       refine⟨m-(k+1),jb,k+1,rfl,jb,a6,a8,rfl,?_,q8,?_,?_,?_,fr,jb⟩
       .rw[eD,eS];exact q7
       .rw[hA]
       .rw[hB]
       .rw[hcn];exact hO7
     .simp(disch:=try exact jz) only[go_sem,z3,t2,t7,t8,t10,t11,t12,t19,t20,t67,t68,t69,t79,t80,zZ,kZ,OU,afc,Yl,afd,afe,ak q7,ak q19,q19,aJ q19,ak q20,q20,aJ q20,s1,s2,h1]
      have hcn:DK g x d j (k+1)=DK g x d j k:=by rw[hsc,ae λh=>h1 kd,dx]
      refine⟨m-(k+1),jb,k+1,rfl,jb,a6,a8,rfl,?_,q8,?_,?_,?_,fr,jb⟩
      .rw[eD,eS];exact q7
      .rw[hA]
      .rw[hB]
      .rw[hcn];exact hO7
    .have:k=m:=jb
     subst this
     simp(disch:=try exact jz) only[go_sem,z3,am]
     exact⟨t2,t7,t8,t10,t11,t12,t67,t68,t69,q7,q8,hO,hf4,jb⟩
   .rintro _ tm σ4 ⟨rfl,t2,t7,t8,t10,t11,t12,t67,t68,t69,q7,q8,hO,hf4,hn4⟩
    rw[<-hdl,ajI g x d hlt]at hO
    simp(disch:=try exact jz) only[go_sem,z3,t2,t7,t8,t10,t11,t12,t67,t68,t69]
    exact⟨g.d.length-(j+1),jb,j+1,rfl,jb,rfl,q7,q8,hO,hf4,hn4⟩
  .have:j=g.d.length:=jb
   subst this
   have hcs:Vh g x d g.d.length=jR g.e.length (bD g) (mJ g x) x d:=by unfold Vh jR;rw[fe (by rw[xR];exact jp)]
   rw[hcs]at hO
   have o1:=hO.f
   have o2:=hO.o
   simp(disch:=try exact jz) only[go_sem,z3,t8,t10,t11,ak o1,ak o2,o1,o2,aJ q8,q8]
   exact fr
def asb(g:gU)(i:Nat):Bool:=decide (0<(ix g.e i).m.q)
def ajJ{σ:St}(hW:WF σ){sb:Nat}{g:gU}(hs:DC (Lt σ.aj) σ.h sb g)(hn:g.e.length<=1000)(hm:∀i,i<g.e.length->(ix g.e i).m.fits 1000000):
  aC EN 66 [.c (.ptr sb 0)] σ λr σ'=>(∃b,r=.c (.sl b 0 g.e.length (.ex g.e.length))/\σ'.h b=some ⟨bls g.e.length (asb g),none⟩/\σ.aj<=b/\b<σ'.aj)/\Fr σ σ':=by
 refine aO (jV.o _ _) jV.h ?_
 unfold jV
 dsimp only
 obtain⟨⟨ev,gv,lv,bv,hsb,hg,⟨R,P,hL1,hL2⟩,hB⟩,hsl⟩:=hs
 have hlk:=hL1.kn
 have hll:=hL1.len
 have YJ:=hg.e.len
 have hek:=hg.e.kn
 have hsl:sb<σ.aj:=hsl
 have hFr:=Fr.refl hW
 simp(disch:=try exact jz) only[go_sem,z3,ak hsb,hll,hlk,YJ,hek]
 refine aF (λq tm σ'=>∃i,q=g.e.length-i/\i<=g.e.length/\Tr.ah tm 3=.c (.sl σ.aj 0 g.e.length (.ex g.e.length))/\Tr.ah tm 16=.c ev/\Tr.ah tm 17=.c (.int .i64 (.ofNat g.e.length))/\Tr.ah tm 18=.c (.int .i64 (.ofNat i))
   /\σ'.h σ.aj=some ⟨ones g.e.length (λk=>.bool (if k<i then asb g k else false)),none⟩/\Fr σ σ'/\σ.aj+1<=σ'.aj) g.e.length ?_ ?_
 .refine⟨0,jb,jb,?_⟩
  simp(disch:=try exact jz) only[go_sem,z3,am]
  exact⟨bL (λl=>some (Bk.mk l none)) (dR λk _=>by rfl),fr,jb⟩
 .rintro q tm σ' ⟨i,rfl,hi,t3,t16,t17,oK,q3,hf,hnx⟩
  have hle:=hf.le
  have jr:=Fr.refl hf.wf
  simp(disch:=try exact jz) only[go_sem,z3,t3,t16,t17,oK,aG]
  refine aH (λhlt=>?_) (λhlt=>?_)
  .obtain⟨b5,o5,c5,rfl,C1,A1,bK,-,hC,hA1⟩:=hg.e.at hlt
   have bK:=hf.ld hW bK
   have UO:=aY.kn hC
   have hAk:=hA1.kn
   have hw:=nY (hm i hlt)
   simp(disch:=try exact jz) only[go_sem,z3,t3,t16,t17,oK,bK,UO,hAk,q3,aJ q3]
   refine⟨g.e.length-(i+1),jb,i+1,rfl,jb,rfl,bL (λl=>some (Bk.mk l none)) (dR λk hk=>?_),fr,jb⟩
   unfold aN
   by_cases e:k=i
   .rw[ab e,ab jb,e];rfl
   grind
  .have:i=g.e.length:=jb
   subst this
   simp(disch:=try exact jz) only[go_sem,z3,t3]
   refine⟨⟨_,rfl,?_,jb,jb⟩,hf⟩
   rw[q3]
   exact bL (λl=>some (Bk.mk l none)) (dR λk hk=>by grind)
def aff(q:Rat):decide (rs q=⟨#[]⟩)=decide (q=0):=by
 by_cases h:q=0
 .rw[bp h];exact bp (jJ.mpr h)
 .rw[az h];exact az λe=>h (jJ.mp e)
def anr{σ:St}(hW:WF σ){p:Nat->Prop}{v:B}{n m:Nat}{A:Nat->Nat->Rat}(hA:dP p σ.h v n (λ_=>m) A)(hn:n<=1000){f c:Nat}(hf:f<=n)(hc:c<m):
  aC EN 204 [.c v,.c (.int .i64 (.ofNat f)),.c (.int .i64 (.ofNat c))] σ λr σ'=>r=.c (.int .i64 (if f+uJ A c f (n-f)<n then .ofNat (f+uJ A c f (n-f))else .negSucc 0))/\Fr σ σ':=by
 refine aO (xB.o _ _) xB.h ?_
 unfold xB
 dsimp only
 have hlen:=hA.len
 have hz:=λ(args:List V) (σ:St) (K:V->St->Prop)=>jy (E:=EN) (K:=K) (gI.o args σ) gI.h
 unfold gI at hz
 dsimp only at hz
 simp(disch:=try exact jz) only[go_sem,z3,hlen]
 refine aF (λq tm σ'=>∃i,q=n-i/\f<=i/\i<=n/\Tr.ah tm 0=.c v/\Tr.ah tm 2=.c (.int .i64 (.ofNat c))/\Tr.ah tm 7=.c (.int .i64 (.ofNat i))/\f+uJ A c f (n-f)=i+uJ A c i (n-i)/\Fr σ σ') (n-f) ?_ ?_
 .refine⟨f,rfl,jp,hf,?_⟩
  simp(disch:=try exact jz) only[go_sem,z3,am]
  exact Fr.refl hW
 .rintro q tm σ' ⟨i,rfl,hi1,hi,t0,t2,t7,hfs,hf'⟩
  have hFr:=Fr.refl hf'.wf
  simp(disch:=try exact jz) only[go_sem,z3,t0,t2,t7,hlen,aG]
  refine aH (λhlt=>?_) (λhlt=>?_)
  .obtain⟨b6,o6,c6,T,rfl,-,bW,hT⟩:=hA.at hlt
   obtain⟨b7,o7,c7,rfl,-,dJ⟩:=aY.at3 hT hc
   have bW:=hf'.ld hW bW
   have dJ:=hf'.ld hW dJ
   have hs:n-i=(n-(i+1))+1:=jb
   have hst:uJ A c i (n-i)=if A i c=0 then uJ A c (i+1) (n-(i+1))+1 else 0:=by grind[uJ]
   by_cases h0:A i c=0
   .simp(disch:=try exact jz) only[go_sem,z3,t0,t2,t7,bW,dJ,hz,aff,h0,gA]
    rw[ab h0]at hst
    exact⟨n-(i+1),jb,i+1,rfl,jb,jb,rfl,jb,fr⟩
   .simp(disch:=try exact jz) only[go_sem,z3,t0,t2,t7,bW,dJ,hz,aff,h0,decide_false]
    rw[ae h0]at hst
    rw[ab jb]
    exact⟨by grind,fr⟩
  .have:i=n:=jb
   subst this
   have:uJ A c i (i-i)=0:=by rw[Nat.sub_self];rfl
   simp(disch:=try exact jz) only[go_sem,z3,t0]
   grind
def minS(a b:Nat->Rat)(f:Rat)(j k:Nat):Rat:=if k<j then a k-f*b k else a k
def ant{σ:St}(hW:WF σ){p:Nat->Prop}{ba m:Nat}{ca:Cap}{o:Option (Nat×Nat)}{a b:Nat->Rat}{bv:B}{f:Rat}(h1:σ.h ba=some ⟨bU m a,o⟩)(hpl:plo o=true)(hrd:YE o=true)(hb:iL p σ.h bv m b)(hp:∀x,p x->x≠ba)(hm:m<=1000)
  (z0:Sz f) (za:∀k,k<m->Sz (a k)) (zb:∀k,k<m->Sz (b k)) (zm:∀k,k<m->Sz (f*b k)) (zs:∀k,k<m->Sz (a k-f*b k)):
  aC EN 206 [.c (.sl ba 0 m ca),.c bv,.agg [.bool (rn f),.str (rs f),.str (rd f)]] σ λ_ σ'=>σ'.h ba=some ⟨bU m λk=>a k-f*b k,o⟩/\aU [ba] σ σ':=by
 refine aO (xC.o _ _) xC.h ?_
 unfold xC
 dsimp only
 have hba:=hW.lt h1
 have hFr:=aU.refl (ex:=[ba]) hW
 have hz:=λ(args:List V) (σ:St) (K:V->St->Prop)=>jy (E:=EN) (K:=K) (gI.o args σ) gI.h
 unfold gI at hz
 dsimp only at hz
 simp(disch:=try exact jz) only[go_sem,z3,am]
 refine aF (λq tm σ'=>∃j,q=m-j/\j<=m/\Tr.ah tm 0=.c (.sl ba 0 m ca)/\Tr.ah tm 1=.c bv/\Tr.ah tm 5=.c (.ptr σ.aj 0)/\Tr.ah tm 8=.c (.int .i64 (.ofNat m))/\Tr.ah tm 9=.c (.int .i64 (.ofNat j))
  /\σ'.h σ.aj=some ⟨[.bool (rn f),.str (rs f),.str (rd f)],none⟩/\σ'.h ba=some ⟨bU m (minS a b f j),o⟩/\aU [ba] σ σ'/\σ.aj+1<=σ'.aj) m ?_ ?_
 .refine⟨0,jb,jb,?_⟩
  simp(disch:=try exact jz) only[go_sem,z3,am,h1]
  exact⟨bL (λl=>some (Bk.mk l o)) (dw λk _=>(ae jb).symm),by repeat(first|assumption|exact aU.refl (by assumption)|exact aU.up (by assumption) kf|exact aU.up (aU.refl (by assumption)) kf|refine aU.set1 ?_ kg kf|refine aU.kH ?_ kg|refine aU.nM ?_ kg|refine aU.oC ?_ kf),jb⟩
 .rintro q tm σ' ⟨j,rfl,hj,t0,t1,t5,t8,t9,q5,q1,hf,hnx⟩
  have hle:=hf.le
  have jr:=aU.refl (ex:=[ba]) hf.wf
  simp(disch:=try exact jz) only[go_sem,z3,t0,t1,t5,t8,t9,aG]
  refine aH (λhlt=>?_) (λhlt=>?_)
  .obtain⟨b7,o7,c7,rfl,hp7,dJ⟩:=aY.at3 hb hlt
   have hne:=hp _ hp7
   have dJ:=hf.ld hW kd dJ
   have y1:=za j hlt
   have y2:=zb j hlt
   have y3:=zm j hlt
   have y4:=zs j hlt
   have e1:minS a b f j j=a j:=ae jb
   have hb7:=hf.wf.cO dJ
   have hb1:=hf.wf.lt q1
   by_cases h0:b j=0
   .simp(disch:=try exact jz) only[go_sem,z3,t0,t1,t5,t8,t9,dJ,hz,aff,h0,gA]
    refine⟨m-(j+1),jb,j+1,rfl,jb,rfl,q5,?_,by repeat(first|assumption|exact aU.refl (by assumption)|exact aU.up (by assumption) kf|exact aU.up (aU.refl (by assumption)) kf|refine aU.set1 ?_ kg kf|refine aU.kH ?_ kg|refine aU.nM ?_ kg|refine aU.oC ?_ kf),jb⟩
    grind[Go.Proofs.Xe.dw,Go.Proofs.Xe.minS]
   .simp(disch:=try exact jz) only[go_sem,z3,t0,t1,t5,t8,t9,dJ,hz,aff,h0,decide_false,ak q5,ak q1,q1,hrd,hpl,aJ q1,e1]
    refine⟨m-(j+1),jb,j+1,rfl,jb,rfl,q5,bL (λl=>some (Bk.mk l o)) (dw λk _=>?_),by repeat(first|assumption|exact aU.refl (by assumption)|exact aU.up (by assumption) kf|exact aU.up (aU.refl (by assumption)) kf|refine aU.set1 ?_ kg kf|refine aU.kH ?_ kg|refine aU.nM ?_ kg|refine aU.oC ?_ kf),jb⟩
    grind[aN,minS]
  .have:j=m:=jb
   subst this
   simp(disch:=try exact jz) only[go_sem,z3,am]
   refine⟨?_,hf⟩
   rw[q1]
   exact bL (λl=>some (Bk.mk l o)) (dw λk hk=>ab hk)
def RJ{n:Nat}(h:0<n):decide (n=0)=false:=az jb
def Pm{n:Nat}(h:n<=16):decide (16<n)=false:=az jb
def Yn{σ:St}(hW:WF σ){p:Nat->Prop}{v:B}{n m:Nat}{A:Nat->Nat->Rat}(hA:dP p σ.h v n (λ_=>m) A)(hn:0<n)(hn2:n<=16)(hm:0<m)(hm2:m<=16):
  aC EN 175 [.c v] σ λr σ'=>r=.c (.int .i64 (.ofNat 0))/\Fr σ σ':=by
 refine aO (xA.o _ _) xA.h ?_
 unfold xA
 dsimp only
 have hFr:=Fr.refl hW
 have hlen:=hA.len
 obtain⟨b6,o6,c6,T,rfl,-,bW,hT⟩:=hA.at hn
 have vk:ld σ.h b6 (o6+0*1) 1 false=some (.c T):=bW
 have hlT:=aY.len hT
 simp(disch:=try exact jz) only[go_sem,z3,hlen,bW,vk,hlT,RJ hn,RJ hm]
 refine aF (λq tm σ'=>∃i,q=n-i/\i<=n/\Tr.ah tm 0=.c (.sl b6 o6 n c6)/\Tr.ah tm 15=.c (.sl b6 o6 n c6)/\Tr.ah tm 16=.c (.int .i64 (.ofNat n))/\Tr.ah tm 17=.c (.int .i64 (.ofNat i))/\Fr σ σ') n ?_ ?_
 .refine⟨0,jb,jb,?_⟩
  simp(disch:=try exact jz) only[go_sem,z3,am]
  exact hFr
 .rintro q tm σ' ⟨i,rfl,hi,t0,t15,t16,t17,hf⟩
  have vk:=hf.ld hW vk
  simp(disch:=try exact jz) only[go_sem,z3,t0,t15,t16,t17,aG]
  refine aH (λhlt=>?_) (λhlt=>?_)
  .obtain⟨b7,o7,c7,T2,e7,-,dJ,hT2⟩:=hA.at hlt
   cases e7
   have dJ:=hf.ld hW dJ
   have axG:=aY.len hT2
   simp(disch:=try exact jz) only[go_sem,z3,t0,t15,t16,t17,vk,dJ,hlT,axG,Q7]
   exact⟨n-(i+1),jb,i+1,rfl,jb,rfl,hf⟩
  .have:i=n:=jb
   subst this
   simp(disch:=try exact jz) only[go_sem,z3,t0,hlen,vk,hlT,Pm hn2,Pm hm2,aG]
   exact hf
end Go.Proofs.Xe
end
