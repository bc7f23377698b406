import Derived.Test.YthkggcakedkboaaGreatDoorZ37
set_option linter.all false
set_option maxRecDepth 100000
set_option maxHeartbeats 8000000
noncomputable section
namespace Go.Proofs.Xe
open Go.RowKit Go.Proofs.Ins
def Am(l:List Rat):Option Rat:=l.foldl YB none
def RS(l:List Rat)(q:Rat):Am (l++[q])=YB (Am l) q:=by grind[Am]
def JM:∀(l:List Rat) (m:Rat),∃k,l.foldl YB (some m)=some k/\(k=m\/k∈l)/\k<=m/\∀v∈l,k<=v
 |[],m=>⟨m,rfl,.inl rfl,aR,λv hv=>by cases hv⟩
 |a::l,m=>by
  rw[List.foldl_cons];by_cases h:a<m
  .rw[show YB (some m) a=some a from ab h];obtain⟨k,h1,h2,h3,h4⟩:=JM l a;grind
  .rw[show YB (some m) a=some m from ae h];obtain⟨k,h1,h2,h3,h4⟩:=JM l m;grind
def Vl(l:List Rat):(l=[]/\Am l=none)\/∃m,Am l=some m/\m∈l/\∀v∈l,m<=v:=by
 cases l with
 |nil=>exact .inl ⟨rfl,rfl⟩
 |cons a l=>
  obtain⟨k,h1,h2,h3,h4⟩:=JM l a
  refine .inr ⟨k,h1,?_,λv hv=>?_⟩
  .grind
  grind
theorem VH.uniq{e:eY}{n:Nat}{z x:Rat}{o o':Option Rat}(h:VH e n z x o)(h':VH e n z x o'):o=o':=by
 induction h with
 |no h=>cases h' with
  |no=>rfl
  |stop h2=>grind
  |go h2=>grind
 |stop h hs=>cases h' with
  |no h2=>grind
  |stop h2=>grind
  |go h2 hs2=>grind
 |go h hs _ ih=>cases h' with
  |no h2=>grind
  |stop h2 hs2=>grind
  |go h2 _ hr=>grind
open Classical in
def nxE(e:eY)(n:Nat)(x:Rat):Option Rat:=if h:∃o,VH e n x x o then h.choose else none
def ajR{e:eY}{n:Nat}{x:Rat}{o:Option Rat}(h:VH e n x x o):nxE e n x=o:=by
 have h2:∃o,VH e n x x o:=⟨o,h⟩
 grind[nxE,VH.uniq]
def mW(g:gQ)(x:Nat->Rat)(i:Nat):Option Rat:=(nxE (dh (ix g.e i)) (kE g.e i) (x i)).map λy=>y-x i
theorem RU{W:Rat}{q r:fC->Rat}:∀(t:List fC) (a:fC) (Q R:Rat),qB W q r Q R (t++[a])=qB W q r Q R t++(if Q+aI t q+q a<W/\0<R+aI t r+r a then [(W-(Q+aI t q+q a))/(R+aI t r+r a)]else [])
 |[],a,Q,R=>by show(if _ then _ else _)++[]=[]++_;simp_all[aI,cQ]
 |b::t,a,Q,R=>by show(if _ then _ else _)++qB W q r _ _ (t++[a])=((if _ then _ else _)++qB W q r _ _ t)++_;rw[RU t a,ii];have e1:aI (b::t) q=q b+aI t q:=rfl;have e2:aI (b::t) r=r b+aI t r:=rfl;rw[e1,e2,eZ Q,eZ R]
def Vm(g:gQ)(x d:Nat->Rat)(j:Nat):List Rat:=Bh (mW g x) d g.e.length++((bf g).ds.take j).flatMap λd'=>qB d'.1 (gq (bf g) x) (gr (bf g) x d) 0 0 d'.2
def DN(g:gQ)(x d:Nat->Rat)(j k:Nat):List Rat:=Vm g x d j++qB (dW g j) (gq (bf g) x) (gr (bf g) x d) 0 0 ((dL g j).take k)
def afp(g:gQ)(x d:Nat->Rat)(j:Nat):DN g x d j 0=Vm g x d j:=by unfold DN;rw[cI];exact dt _
def ajS(g:gQ)(x d:Nat->Rat){j:Nat}(h:j<g.d.length):DN g x d j (dL g j).length=Vm g x d (j+1):=by grind[DN,Vm,take_snoc,xZ,OQ]
def afq(g:gQ)(x d:Nat->Rat){j k:Nat}(h:k<(dL g j).length):DN g x d j (k+1)=DN g x d j k++(if aI ((dL g j).take (k+1)) (gq (bf g) x)<dW g j/\0<aI ((dL g j).take (k+1)) (gr (bf g) x d)then [(dW g j-aI ((dL g j).take (k+1)) (gq (bf g) x))/aI ((dL g j).take (k+1)) (gr (bf g) x d)]else []):=by grind[DN,take_snoc,RU,mX]
structure NrN(D:Nat)(g:gQ)(x d:Nat->Rat):Prop where
 m:U9 D g x
 nn:∀i,i<g.e.length->Aw (dh (ix g.e i))/\0<=x i
 dz:∀i,i<g.e.length->Sz (d i)
 nx:∀i,i<g.e.length->0<d i->∃S:Rat->Prop,S (x i)/\(∀m,S m->∃D,BN D/\EOk D (kE g.e i) (dh (ix g.e i))/\MOk D (dh (ix g.e i)) m/\ROk D (dh (ix g.e i)) m/\SOk (dh (ix g.e i)) m)/\∀m t,S m->Ik (dh (ix g.e i)) m=some t->S (m+t)
 ny:∀i,i<g.e.length->0<d i->∀y,nxE (dh (ix g.e i)) (kE g.e i) (x i)=some y->Sz y/\Sz (y-x i)/\Sz ((y-x i)/d i)
 c1:∀i,i<=g.e.length->Sz (gq0 (Am (Bh (mW g x) d i)))
 c2:∀j,j<g.d.length->∀k,k<=(dL g j).length->Sz (gq0 (Am (DN g x d j k)))/\Sz (dW g j-aI ((dL g j).take k) (gq (bf g) x))/\Sz (aI ((dL g j).take k) (gr (bf g) x d))
  /\Sz ((dW g j-aI ((dL g j).take k) (gq (bf g) x))/aI ((dL g j).take k) (gr (bf g) x d))
 c3:∀j,j<g.d.length->∀l∈dL g j,Sz (gq (bf g) x l)/\Sz (gs (bf g) x l.1 l)/\Sz (gr (bf g) x d l)
def RZ{σ:St}(hW:WF σ){sb:Nat}{g:gQ}{x d:Nat->Rat}(hs:DJ (Lt σ.aj) σ.h sb g){p:Nat->Prop}{xv YZ Dv Sv:B}(hx:iD p σ.h xv g.e.length x)(hd:iD p σ.h YZ g.e.length d)(hDv:dS p σ.h Dv g.e.length (kE g.e) (Qc g x))(hSv:dS p σ.h Sv g.e.length (kE g.e) (KE g x)){D:Nat}(hN:NrN D g x d):
  aC EN 71 [.c (.ptr sb 0),.c xv,.c YZ,.agg [Dv,Sv]] σ λr σ'=>r=.aX (.agg [.bool (rn (gq0 (Am (jX g.e.length (bf g) (mW g x) x d)))),.str (rs (gq0 (Am (jX g.e.length (bf g) (mW g x) x d)))),.str (rd (gq0 (Am (jX g.e.length (bf g) (mW g x) x d))))]) (.aX (.c (.bool (Am (jX g.e.length (bf g) (mW g x) x d)).isSome)) .tnil)/\Fr σ σ':=by
 refine aP (jJ.o _ _) jJ.h ?_
 unfold jJ
 dsimp only
 have hs':=hs
 obtain⟨⟨ev,gv,lv,bv,hsb,hg,⟨R,P,hL1,hL2⟩,hB⟩,hsl⟩:=hs
 have Y1:=hN.m.A.s
 have hn:=Y1.n
 have hnd:=Y1.d
 have hD:=Y1.hD
 have hlk:=hL1.kn
 have hll:=hL1.len
 have hlD:=hg.d.len
 have hdk:=hg.d.kn
 have k1:=hDv.kn
 have k2:=hSv.kn
 have hsl:sb<σ.aj:=hsl
 have hFr:=Fr.refl hW
 simp(disch:=try exact jz) only[go_sem,z3,k1,k2,ak hsb,hll,hlk]
 refine bF.mono (Q:=λex tm σ'=>ex=.exit 0/\Tr.ah tm 0=.c (.ptr sb 0)/\Tr.ah tm 2=.c YZ/\Tr.ah tm 7=.c (.ptr σ.aj 0)/\Tr.ah tm 8=.c (.ptr (σ.aj+1) 0)/\Tr.ah tm 10=.c (.ptr (σ.aj+1+1) 0)/\Tr.ah tm 11=.c (.ptr (σ.aj+1+1+1) 0)/\Tr.ah tm 12=.fn 114 [.ptr (σ.aj+1+1+1) 0,.ptr (σ.aj+1+1) 0]
   /\σ'.h σ.aj=some ⟨[Dv,Sv],none⟩/\σ'.h (σ.aj+1)=some ⟨[.bool (rn 0),.str (rs 0),.str (rd 0)],none⟩/\Qo σ'.h (σ.aj+1+1+1) (σ.aj+1+1) (Am (Bh (mW g x) d g.e.length))/\Fr σ σ'/\σ.aj+1+1+1+1<=σ'.aj)
  (aF (λq tm σ'=>∃i,q=g.e.length-i/\i<=g.e.length/\Tr.ah tm 0=.c (.ptr sb 0)/\Tr.ah tm 1=.c xv/\Tr.ah tm 2=.c YZ/\Tr.ah tm 7=.c (.ptr σ.aj 0)/\Tr.ah tm 8=.c (.ptr (σ.aj+1) 0)/\Tr.ah tm 10=.c (.ptr (σ.aj+1+1) 0)/\Tr.ah tm 11=.c (.ptr (σ.aj+1+1+1) 0)/\Tr.ah tm 12=.fn 114 [.ptr (σ.aj+1+1+1) 0,.ptr (σ.aj+1+1) 0]
   /\Tr.ah tm 27=.c lv/\Tr.ah tm 28=.c (.int .i64 (.ofNat g.e.length))/\Tr.ah tm 29=.c (.int .i64 (.ofNat i))/\σ'.h σ.aj=some ⟨[Dv,Sv],none⟩/\σ'.h (σ.aj+1)=some ⟨[.bool (rn 0),.str (rs 0),.str (rd 0)],none⟩/\Qo σ'.h (σ.aj+1+1+1) (σ.aj+1+1) (Am (Bh (mW g x) d i))/\Fr σ σ'/\σ.aj+1+1+1+1<=σ'.aj) g.e.length ?_ ?_) ?_
 .refine⟨0,jb,jb,?_⟩
  simp(disch:=try exact jz) only[go_sem,z3,am]
  refine⟨⟨aA _ _ _,?_⟩,fr,jb⟩
  rw[au _ _ _ _ jb,au _ _ _ _ jb,aA]
  rfl
 .rintro q tm σ' ⟨i,rfl,hi,t0,t1,t2,t7,t8,t10,t11,t12,t27,t28,t29,q7,q8,hO,hf,hnx⟩
  have hle:=hf.le
  have jM:=Fr.refl hf.wf
  simp(disch:=try exact jz) only[go_sem,z3,t0,t1,t2,t7,t8,t10,t11,t12,t27,t28,t29,aG]
  refine aH (λhlt=>?_) (λhlt=>?_)
  .obtain⟨b5,o5,c5,rfl,-,bM⟩:=hL1.pos jb
   have hLi:=hL2 i hlt
   have hRk:=hLi.rk.kn
   have hPk:=hLi.VI
   obtain⟨he1,he2,-,-⟩:=Y1.e i hlt
   have bM:=hf.ld hW (bM i hlt)
   obtain⟨b6,o6,c6,e6,-,bY⟩:=aW.at3 hd hlt
   obtain⟨b7,o7,c7,e7,-,dN⟩:=aW.at3 hx hlt
   have azw:=hW.dw bY
   have av7:=hW.dw dN
   have bY:=hf.ld hW bY
   have dN:=hf.ld hW dN
   have a6:V.c (.sl b6 o6 g.e.length c6)=V.c YZ:=by rw[e6]
   have a7:V.c (.sl b7 o7 g.e.length c7)=V.c xv:=by rw[e7]
   rw[e6]at t2
   rw[e7]at t1
   have hb6:=hf.wf.dw bY
   have hb7:=hf.wf.dw dN
   have hb5:=hf.wf.dw bM
   have z1:=hN.dz i hlt
   unfold jE at bM
   by_cases hp:0<d i
   .have hl7:=hf.wf.lt q7
    obtain⟨S,s1,s2,s3⟩:=hN.nx i hlt hp
    obtain⟨n1,n2⟩:=hN.nn i hlt
    have hzO:=hN.c1 i hi
    obtain⟨Dx,-,-,zx,-,-⟩:=s2 _ s1
    have zx:=zx.hm
    simp(disch:=try exact jz) only[go_sem,z3,t0,t1,t2,t7,t8,t10,t11,t12,t27,t28,t29,bM,bY,dN,hRk,hPk,hp]
    refine aC.st (Fr σ') (fr) λiE=>?_
    have hf5:=hf.trans iE
    refine(arT iE.wf _ (dh (ix g.e i)) ((hLi.keep (λb hb=>hf5.old b hb) λ_ h=>h).lay) (x i) n1 n2 S s1 s2 s3).mono ?_
    rintro _ σ6 ⟨⟨o,ho,rfl⟩,fU⟩
    have lQ:=iE.trans fU
    have aaD:=hf.trans lQ
    have Ag:σ'.aj+1+1<=σ6.aj:=fU.le
    have hy6:σ6.h (σ'.aj+1)=some ⟨[.bool (rn 0),.str (rs 0),.str (rd 0)],none⟩:=fU.get iE.wf (aA _ _ _)
    have q76:=lQ.get hf.wf q7
    have q86:=lQ.get hf.wf q8
    have hO6:Qo σ6.h (σ.aj+1+1+1) (σ.aj+1+1) (Am (Bh (mW g x) d i)):=⟨lQ.get hf.wf hO.f,lQ.get hf.wf hO.o⟩
    have av8:=lQ.ld hf.wf bY
    have av9:=lQ.ld hf.wf dN
    have hno:=ajR ho
    cases o with
    |none=>
     have hds:mW g x i=none:=by unfold mW;rw[hno];rfl
     have hcn:Bh (mW g x) d (i+1)=Bh (mW g x) d i:=by show _++_=_;rw[ab hp,hds,dt]
     unfold arS
     simp(disch:=try exact jz) only[go_sem,z3,t0,t1,t2,t7,t8,t10,t11,t12,t27,t28,t29,ak hy6,hy6,aJ hy6]
     have hW6:=fU.wf
     refine⟨g.e.length-(i+1),jb,i+1,rfl,jb,a7,a6,rfl,q76,q86,?_,fr,jb⟩
     rw[hcn]
     exact⟨(au _ _ _ _ jb).trans hO6.f,(au _ _ _ _ jb).trans hO6.o⟩
    |some y=>
     have hds:mW g x i=some (y-x i):=by unfold mW;rw[hno];rfl
     have hcn:Bh (mW g x) d (i+1)=Bh (mW g x) d i++[(y-x i)/d i]:=by show _++_=_;rw[ab hp,hds]
     obtain⟨y1,y2,y3⟩:=hN.ny i hlt hp y hno
     unfold arS
     simp(disch:=try exact jz) only[go_sem,z3,t0,t1,t2,t7,t8,t10,t11,t12,t27,t28,t29,ak hy6,hy6,aJ hy6,av8,av9]
     refine aC.st (Fr σ') (by have hW6:=fU.wf;exact fr) λsH=>?_
     have hO7:Qo (hset σ6.h (σ'.aj+1) ⟨[.bool (rn y),.str (rs y),.str (rd y)],none⟩) (σ.aj+1+1+1) (σ.aj+1+1) (Am (Bh (mW g x) d i)):=⟨(au _ _ _ _ jb).trans hO6.f,(au _ _ _ _ jb).trans hO6.o⟩
     refine(ajQ sH.wf hO7 jb y2 z1 hp y3 hzO).mono ?_
     rintro v8 σ8 ⟨hO8,pG⟩
     rw[<-RS,<-hcn]at hO8
     have ajl:σ6.aj<=σ8.aj:=pG.le
     have Lp:=aU.to (hf.trans sH) pG λb hb=>by simp at hb;omega
     have awc:=pG.ld sH.wf (by simp<;>omega) (sH.ld hf.wf bY)
     have q78:=pG.get sH.wf (by simp<;>omega) (sH.get hf.wf q7)
     have q88:=pG.get sH.wf (by simp<;>omega) (sH.get hf.wf q8)
     simp(disch:=try exact jz) only[go_sem,z3,t0,t1,t2,t7,t8,t10,t11,t12,t27,t28,t29,awc]
     exact⟨g.e.length-(i+1),jb,i+1,rfl,jb,a7,a6,rfl,q78,q88,hO8,Lp,jb⟩
   .have hcn:Bh (mW g x) d (i+1)=Bh (mW g x) d i:=by show _++_=_;rw[ae hp,dt]
    simp(disch:=try exact jz) only[go_sem,z3,t0,t1,t2,t7,t8,t10,t11,t12,t27,t28,t29,bM,bY,hRk,hPk,hp]
    refine⟨g.e.length-(i+1),jb,i+1,rfl,jb,a7,a6,rfl,q7,q8,?_,fr,jb⟩
    rw[hcn]
    have hl7:=hf.wf.lt q7
    refine⟨?_,?_⟩
    .repeat rw[au _ _ _ _ jb]
     exact hO.f
    .repeat rw[au _ _ _ _ jb]
     exact hO.o
  .have:i=g.e.length:=jb
   subst this
   simp(disch:=try exact jz) only[go_sem,z3,am]
   exact⟨t0,t2,t7,t8,t10,t11,t12,q7,q8,hO,hf,hnx⟩
 rintro _ tm σ3 ⟨rfl,t0,t2,t7,t8,t10,t11,t12,q7,q8,hO,hf3,hn3⟩
 have hle3:=hf3.le
 have aiW:=hf3.get hW hsb
 have hcz:Bh (mW g x) d g.e.length=Vm g x d 0:=by unfold Vm;rw[cI];exact(dt _).symm
 rw[hcz]at hO
 simp(disch:=try exact jz) only[go_sem,z3,t0,t2,t7,t8,t10,t11,t12,ak aiW,hlD,hdk]
 refine aF (λq tm σ'=>∃j,q=g.d.length-j/\j<=g.d.length/\Tr.ah tm 2=.c YZ/\Tr.ah tm 7=.c (.ptr σ.aj 0)/\Tr.ah tm 8=.c (.ptr (σ.aj+1) 0)/\Tr.ah tm 10=.c (.ptr (σ.aj+1+1) 0)/\Tr.ah tm 11=.c (.ptr (σ.aj+1+1+1) 0)/\Tr.ah tm 12=.fn 114 [.ptr (σ.aj+1+1+1) 0,.ptr (σ.aj+1+1) 0]
   /\Tr.ah tm 67=.c gv/\Tr.ah tm 68=.c (.int .i64 (.ofNat g.d.length))/\Tr.ah tm 69=.c (.int .i64 (.ofNat j))
   /\σ'.h σ.aj=some ⟨[Dv,Sv],none⟩/\σ'.h (σ.aj+1)=some ⟨[.bool (rn 0),.str (rs 0),.str (rd 0)],none⟩/\Qo σ'.h (σ.aj+1+1+1) (σ.aj+1+1) (Am (Vm g x d j))/\Fr σ σ'/\σ.aj+1+1+1+1<=σ'.aj) g.d.length ?_ ?_
 .refine⟨0,jb,jb,?_⟩
  simp(disch:=try exact jz) only[go_sem,z3,t2,t7,t8,t10,t11,t12,am]
  exact⟨q7,q8,hO,hf3,hn3⟩
 .rintro q tm σ' ⟨j,rfl,hj,t2,t7,t8,t10,t11,t12,t67,t68,t69,q7,q8,hO,hf,hnx⟩
  have hle:=hf.le
  simp(disch:=try exact jz) only[go_sem,z3,t2,t7,t8,t10,t11,t12,t67,t68,t69,aG]
  refine aH (λhlt=>?_) (λhlt=>?_)
  .obtain⟨b5,o5,c5,rfl,L1,bM,hL⟩:=hg.d.el hlt
   have bM:=hf.ld hW bM
   have hLk:=aW.kn hL
   have hlL:=aW.len hL
   obtain⟨hlen,II⟩:=Y1.l j hlt
   obtain⟨hwf,hw0,hwz⟩:=Y1.w j hlt
   have jM:=Fr.refl hf.wf
   have hw2:=ou hwf
   have hmx:Hw (rq (ix g.d j).w.n (ix g.d j).w.s (ix g.d j).w.d) 0=dW g j:=by rw[aaF];exact JD hw0
   generalize hm:(ix g.d j).l.length=m at*
   have hdl:(dL g j).length=m:=(JH g j).trans hm
   have ajq:lenV (.c L1)=some (.c (.int .i64 (.ofNat m))):=hlL
   have hl7:=hf.wf.lt q7
   have hl8:=hf.wf.lt q8
   have hlf:=hf.wf.lt hO.f
   have hlo:=hf.wf.lt hO.o
   simp(disch:=try exact jz) only[go_sem,z3,t2,t7,t8,t10,t11,t12,t67,t68,t69,bM,hLk,ajq,hmx]
   refine bF.st (Fr σ') (fr) λiE=>?_
   have hf5:=hf.trans iE
   have zk:=iE.le
   refine bF.mono (Q:=λex tm σ4=>ex=.exit 4/\Tr.ah tm 2=.c YZ/\Tr.ah tm 7=.c (.ptr σ.aj 0)/\Tr.ah tm 8=.c (.ptr (σ.aj+1) 0)/\Tr.ah tm 10=.c (.ptr (σ.aj+1+1) 0)/\Tr.ah tm 11=.c (.ptr (σ.aj+1+1+1) 0)/\Tr.ah tm 12=.fn 114 [.ptr (σ.aj+1+1+1) 0,.ptr (σ.aj+1+1) 0]
    /\Tr.ah tm 67=.c (.sl b5 o5 g.d.length c5)/\Tr.ah tm 68=.c (.int .i64 (.ofNat g.d.length))/\Tr.ah tm 69=.c (.int .i64 (.ofNat j))/\σ4.h σ.aj=some ⟨[Dv,Sv],none⟩/\σ4.h (σ.aj+1)=some ⟨[.bool (rn 0),.str (rs 0),.str (rd 0)],none⟩/\Qo σ4.h (σ.aj+1+1+1) (σ.aj+1+1) (Am (DN g x d j m))/\Fr σ σ4/\σ.aj+1+1+1+1<=σ4.aj)
    (aF (λq tm σ4=>∃k,q=m-k/\k<=m/\Tr.ah tm 2=.c YZ/\Tr.ah tm 7=.c (.ptr σ.aj 0)/\Tr.ah tm 8=.c (.ptr (σ.aj+1) 0)/\Tr.ah tm 10=.c (.ptr (σ.aj+1+1) 0)/\Tr.ah tm 11=.c (.ptr (σ.aj+1+1+1) 0)/\Tr.ah tm 12=.fn 114 [.ptr (σ.aj+1+1+1) 0,.ptr (σ.aj+1+1) 0]
     /\Tr.ah tm 19=.c (.ptr (σ'.aj+1) 0)/\Tr.ah tm 20=.c (.ptr (σ'.aj+1+1) 0)/\Tr.ah tm 67=.c (.sl b5 o5 g.d.length c5)/\Tr.ah tm 68=.c (.int .i64 (.ofNat g.d.length))/\Tr.ah tm 69=.c (.int .i64 (.ofNat j))/\Tr.ah tm 79=.c L1/\Tr.ah tm 80=.c (.int .i64 (.ofNat m))/\Tr.ah tm 81=.c (.int .i64 (.ofNat k))
     /\σ4.h σ.aj=some ⟨[Dv,Sv],none⟩/\σ4.h (σ.aj+1)=some ⟨[.bool (rn 0),.str (rs 0),.str (rd 0)],none⟩/\σ4.h (σ'.aj+1)=some ⟨[.bool (rn (dW g j-aI ((dL g j).take k) (gq (bf g) x))),.str (rs (dW g j-aI ((dL g j).take k) (gq (bf g) x))),.str (rd (dW g j-aI ((dL g j).take k) (gq (bf g) x)))],none⟩
     /\σ4.h (σ'.aj+1+1)=some ⟨[.bool (rn (aI ((dL g j).take k) (gr (bf g) x d))),.str (rs (aI ((dL g j).take k) (gr (bf g) x d))),.str (rd (aI ((dL g j).take k) (gr (bf g) x d)))],none⟩/\Qo σ4.h (σ.aj+1+1+1) (σ.aj+1+1) (Am (DN g x d j k))/\Fr σ σ4/\σ'.aj+1+1+1<=σ4.aj) m ?_ ?_) ?_
   .refine⟨0,jb,jb,?_⟩
    simp(disch:=try exact jz) only[go_sem,z3,t2,t7,t8,t10,t11,t12,t67,t68,t69,am,cI]
    have e1:dW g j-aI ([]:List fC) (gq (bf g) x)=dW g j:=by show dW g j-0=dW g j;grind
    rw[e1,afp]
    refine⟨q7,q8,rfl,rfl,⟨?_,?_⟩,hf5,jb⟩
    .repeat rw[au _ _ _ _ jb]
     exact hO.f
    .repeat rw[au _ _ _ _ jb]
     exact hO.o
   .rintro q Wj σ4 ⟨k,rfl,hk,t2,t7,t8,t10,t11,t12,t19,t20,t67,t68,t69,t79,t80,Aj,q7,q8,q19,q20,hO,hf4,hn4⟩
    simp(disch:=try exact jz) only[go_sem,z3,t2,t7,t8,t10,t11,t12,t19,t20,t67,t68,t69,t79,t80,Aj,aG]
    refine aH (λhltk=>?_) (λhltk=>?_)
    .obtain⟨b8,o8,c8,e8,-,lM⟩:=aW.pos hL (show 0<(ix g.d j).l.length by omega)
     have lM:=hf4.ld hW (lM k jb)
     rw[hm]at e8
     rw[e8]at t79
     have a8:V.c (.sl b8 o8 m c8)=V.c L1:=by rw[e8]
     obtain⟨e,c,ER,he,hc⟩:=II k hltk
     unfold KU at lM
     rw[ER]at lM
     have hlk2:k<(dL g j).length:=jb
     have hix:ix (dL g j) k=(e,c):=by rw[ai7 (by omega:k<(ix g.d j).l.length),ER];rfl
     have hmem:(e,c)∈dL g j:=by rw[<-hix];exact gy hlk2
     obtain⟨b9,o9,c9,T,eD,-,OX,hT⟩:=hDv.at he
     obtain⟨ba,oa,ca,rfl,-,afr⟩:=aW.at3 hT hc
     obtain⟨bb,ob,cb,T2,eS,-,Yz,hT2⟩:=hSv.at he
     obtain⟨bc,oc,cc,rfl,-,afs⟩:=aW.at3 hT2 hc
     obtain⟨bd,od,cd,e6,-,aft⟩:=aW.at3 hd he
     have azx:=hW.dw OX
     have azy:=hW.dw afr
     have azz:=hW.dw Yz
     have azA:=hW.dw afs
     have hbd0:=hW.dw aft
     have vO:=hf4.le
     have OX:=hf4.ld hW OX
     have afr:=hf4.ld hW afr
     have Yz:=hf4.ld hW Yz
     have afs:=hf4.ld hW afs
     have aft:=hf4.ld hW aft
     rw[eD,eS]at q7
     rw[e6]at t2
     have a6:V.c (.sl bd od g.e.length cd)=V.c YZ:=by rw[e6]
     obtain⟨w1,w2,w3,-⟩:=hN.c2 j hlt k jb
     obtain⟨v1,v2,v3,v4⟩:=hN.c2 j hlt (k+1) jb
     obtain⟨u1,u2,u3⟩:=hN.c3 j hlt _ hmem
     have u1:Sz (Qc g x e c):=u1
     have u2:Sz (KE g x e c):=by have:gs (bf g) x (e,c).1 (e,c)=KE g x e c:=ab rfl;rw[<-this];exact u2
     have u3:Sz (KE g x e c*d e):=u3
     have u4:=hN.dz e he
     have s1:dW g j-aI ((dL g j).take k) (gq (bf g) x)-Qc g x e c=dW g j-aI ((dL g j).take (k+1)) (gq (bf g) x):=by rw[take_snoc hlk2,mX,hix];show _-Qc g x e c=_-(_+Qc g x e c);grind
     have s2:aI ((dL g j).take k) (gr (bf g) x d)+KE g x e c*d e=aI ((dL g j).take (k+1)) (gr (bf g) x d):=by rw[take_snoc hlk2,mX,hix];rfl
     have hsc:=afq g x d hlk2
     have DF:=Fr.refl hf4.wf
     generalize hA:dW g j-aI ((dL g j).take (k+1)) (gq (bf g) x)=A at*
     generalize hB:aI ((dL g j).take (k+1)) (gr (bf g) x d)=Bq at*
     have zA:=v2
     have zB:=v3
     rw[<-s1]at v2
     rw[<-s2]at v3
     have g7:∀b,b≠σ4.aj->b≠σ'.aj+1->b≠σ'.aj+1+1->(hset (hset (hset (hset σ4.h σ4.aj ⟨[.int .i64 (.ofNat 0),.int .i64 (.ofNat 0)],none⟩) σ4.aj ⟨[.int .i64 (.ofNat e),.int .i64 (.ofNat c)],none⟩) (σ'.aj+1) ⟨[.bool (rn A),.str (rs A),.str (rd A)],none⟩) (σ'.aj+1+1) ⟨[.bool (rn Bq),.str (rs Bq),.str (rd Bq)],none⟩) b=σ4.h b:=λb k1 k2 k3=>by rw[au _ _ _ _ k3,au _ _ _ _ k2,au _ _ _ _ k1,au _ _ _ _ k1]
     have hO7:Qo (hset (hset (hset (hset σ4.h σ4.aj ⟨[.int .i64 (.ofNat 0),.int .i64 (.ofNat 0)],none⟩) σ4.aj ⟨[.int .i64 (.ofNat e),.int .i64 (.ofNat c)],none⟩) (σ'.aj+1) ⟨[.bool (rn A),.str (rs A),.str (rd A)],none⟩) (σ'.aj+1+1) ⟨[.bool (rn Bq),.str (rs Bq),.str (rd Bq)],none⟩) (σ.aj+1+1+1) (σ.aj+1+1) (Am (DN g x d j k)):=⟨(g7 _ jb jb jb).trans hO.f,(g7 _ jb jb jb).trans hO.o⟩
     by_cases h1:0<A
     .by_cases h2:0<Bq
      .simp(disch:=try exact jz) only[go_sem,z3,t2,t7,t8,t10,t11,t12,t19,t20,t67,t68,t69,t79,t80,Aj,lM,OX,afr,Yz,afs,aft,ak q7,ak q19,q19,aJ q19,ak q20,q20,aJ q20,s1,s2,h1,h2]
       refine aC.st (Fr σ) (fr) λsH=>?_
       refine(ajQ sH.wf hO7 jb zA zB h2 v4 w1).mono ?_
       rintro v8 σ8 ⟨hO8,pG⟩
       have hcn:DN g x d j (k+1)=DN g x d j k++[A/Bq]:=by rw[hsc,ab ⟨by grind,h2⟩]
       rw[<-RS,<-hcn]at hO8
       have ajl:σ4.aj+1<=σ8.aj:=pG.le
       have Lp:=aU.to sH pG λb hb=>by simp at hb;omega
       have q78:=pG.get sH.wf (by simp<;>omega) ((g7 _ jb jb jb).trans q7)
       have q88:=pG.get sH.wf (by simp<;>omega) ((g7 _ jb jb jb).trans q8)
       have aye:=pG.get sH.wf (by simp<;>omega) ((au _ _ _ _ (show σ'.aj+1≠σ'.aj+1+1 by omega)).trans (aA _ _ _))
       have ayf:=pG.get sH.wf (by simp<;>omega) (aA _ _ _)
       simp(disch:=try exact jz) only[go_sem,z3,t2,t7,t8,t10,t11,t12,t19,t20,t67,t68,t69,t79,t80,Aj]
       refine⟨m-(k+1),jb,k+1,rfl,jb,a6,a8,rfl,?_,q88,?_,?_,?_,Lp,jb⟩
       .rw[eD,eS];exact q78
       .rw[hA];exact aye
       .rw[hB];exact ayf
       .exact hO8
      .simp(disch:=try exact jz) only[go_sem,z3,t2,t7,t8,t10,t11,t12,t19,t20,t67,t68,t69,t79,t80,Aj,lM,OX,afr,Yz,afs,aft,ak q7,ak q19,q19,aJ q19,ak q20,q20,aJ q20,s1,s2,h1,h2]
       have hcn:DN g x d j (k+1)=DN g x d j k:=by rw[hsc,ae λh=>h2 h.2,dt]
       refine⟨m-(k+1),jb,k+1,rfl,jb,a6,a8,rfl,?_,q8,?_,?_,?_,fr,jb⟩
       .rw[eD,eS];exact q7
       .rw[hA]
       .rw[hB]
       .rw[hcn];exact hO7
     .simp(disch:=try exact jz) only[go_sem,z3,t2,t7,t8,t10,t11,t12,t19,t20,t67,t68,t69,t79,t80,Aj,lM,OX,afr,Yz,afs,aft,ak q7,ak q19,q19,aJ q19,ak q20,q20,aJ q20,s1,s2,h1]
      have hcn:DN g x d j (k+1)=DN g x d j k:=by rw[hsc,ae λh=>h1 kd,dt]
      refine⟨m-(k+1),jb,k+1,rfl,jb,a6,a8,rfl,?_,q8,?_,?_,?_,fr,jb⟩
      .rw[eD,eS];exact q7
      .rw[hA]
      .rw[hB]
      .rw[hcn];exact hO7
    .have:k=m:=jb
     subst this
     simp(disch:=try exact jz) only[go_sem,z3,am]
     exact⟨t2,t7,t8,t10,t11,t12,t67,t68,t69,q7,q8,hO,hf4,jb⟩
   .rintro _ tm σ4 ⟨rfl,t2,t7,t8,t10,t11,t12,t67,t68,t69,q7,q8,hO,hf4,hn4⟩
    rw[<-hdl,ajS g x d hlt]at hO
    simp(disch:=try exact jz) only[go_sem,z3,t2,t7,t8,t10,t11,t12,t67,t68,t69]
    exact⟨g.d.length-(j+1),jb,j+1,rfl,jb,rfl,q7,q8,hO,hf4,hn4⟩
  .have:j=g.d.length:=jb
   subst this
   have hcs:Vm g x d g.d.length=jX g.e.length (bf g) (mW g x) x d:=by unfold Vm jX;rw[fa (by rw[xZ];exact jp)]
   rw[hcs]at hO
   have o1:=hO.f
   have o2:=hO.o
   simp(disch:=try exact jz) only[go_sem,z3,t8,t10,t11,ak o1,ak o2,o1,o2,aJ q8,q8]
   exact fr
def asP(g:gQ)(i:Nat):Bool:=decide (0<(ix g.e i).m.q)
def ajT{σ:St}(hW:WF σ){sb:Nat}{g:gQ}(hs:DJ (Lt σ.aj) σ.h sb g)(hn:g.e.length<=1000)(hm:∀i,i<g.e.length->(ix g.e i).m.fits 1000000):
  aC EN 66 [.c (.ptr sb 0)] σ λr σ'=>(∃b,r=.c (.sl b 0 g.e.length (.ex g.e.length))/\σ'.h b=some ⟨bls g.e.length (asP g),none⟩/\σ.aj<=b/\b<σ'.aj)/\Fr σ σ':=by
 refine aP (kC.o _ _) kC.h ?_
 unfold kC
 dsimp only
 obtain⟨⟨ev,gv,lv,bv,hsb,hg,⟨R,P,hL1,hL2⟩,hB⟩,hsl⟩:=hs
 have hlk:=hL1.kn
 have hll:=hL1.len
 have hlE:=hg.e.len
 have hek:=hg.e.kn
 have hsl:sb<σ.aj:=hsl
 have hFr:=Fr.refl hW
 simp(disch:=try exact jz) only[go_sem,z3,ak hsb,hll,hlk,hlE,hek]
 refine aF (λq tm σ'=>∃i,q=g.e.length-i/\i<=g.e.length/\Tr.ah tm 3=.c (.sl σ.aj 0 g.e.length (.ex g.e.length))/\Tr.ah tm 16=.c ev/\Tr.ah tm 17=.c (.int .i64 (.ofNat g.e.length))/\Tr.ah tm 18=.c (.int .i64 (.ofNat i))
   /\σ'.h σ.aj=some ⟨ones g.e.length (λk=>.bool (if k<i then asP g k else false)),none⟩/\Fr σ σ'/\σ.aj+1<=σ'.aj) g.e.length ?_ ?_
 .refine⟨0,jb,jb,?_⟩
  simp(disch:=try exact jz) only[go_sem,z3,am]
  exact⟨bO (λl=>some (Bk.mk l none)) (dV λk _=>by rfl),fr,jb⟩
 .rintro q tm σ' ⟨i,rfl,hi,t3,t16,t17,je,q3,hf,hnx⟩
  have hle:=hf.le
  have jM:=Fr.refl hf.wf
  simp(disch:=try exact jz) only[go_sem,z3,t3,t16,t17,je,aG]
  refine aH (λhlt=>?_) (λhlt=>?_)
  .obtain⟨b5,o5,c5,rfl,C1,A1,bM,-,hC,hA1⟩:=hg.e.at hlt
   have bM:=hf.ld hW bM
   have P9:=aW.kn hC
   have hAk:=hA1.kn
   have hw:=ou (hm i hlt)
   simp(disch:=try exact jz) only[go_sem,z3,t3,t16,t17,je,bM,P9,hAk,q3,aJ q3]
   refine⟨g.e.length-(i+1),jb,i+1,rfl,jb,rfl,bO (λl=>some (Bk.mk l none)) (dV λk hk=>?_),fr,jb⟩
   unfold aN
   by_cases e:k=i
   .rw[ab e,ab jb,e];rfl
   grind
  .have:i=g.e.length:=jb
   subst this
   simp(disch:=try exact jz) only[go_sem,z3,t3]
   refine⟨⟨_,rfl,?_,jb,jb⟩,hf⟩
   rw[q3]
   exact bO (λl=>some (Bk.mk l none)) (dV λk hk=>by grind)
def afu(q:Rat):decide (rs q=⟨#[]⟩)=decide (q=0):=by
 by_cases h:q=0
 .rw[bh h];exact bh (jQ.mpr h)
 .rw[az h];exact az λe=>h (jQ.mp e)
def anM{σ:St}(hW:WF σ){p:Nat->Prop}{v:B}{n m:Nat}{A:Nat->Nat->Rat}(hA:dS p σ.h v n (λ_=>m) A)(hn:n<=1000){f c:Nat}(hf:f<=n)(hc:c<m):
  aC EN 204 [.c v,.c (.int .i64 (.ofNat f)),.c (.int .i64 (.ofNat c))] σ λr σ'=>r=.c (.int .i64 (if f+uU A c f (n-f)<n then .ofNat (f+uU A c f (n-f))else .negSucc 0))/\Fr σ σ':=by
 refine aP (xJ.o _ _) xJ.h ?_
 unfold xJ
 dsimp only
 have hlen:=hA.len
 have hz:=λ(args:List V) (σ:St) (K:V->St->Prop)=>jD (E:=EN) (K:=K) (gU.o args σ) gU.h
 unfold gU at hz
 dsimp only at hz
 simp(disch:=try exact jz) only[go_sem,z3,hlen]
 refine aF (λq tm σ'=>∃i,q=n-i/\f<=i/\i<=n/\Tr.ah tm 0=.c v/\Tr.ah tm 2=.c (.int .i64 (.ofNat c))/\Tr.ah tm 7=.c (.int .i64 (.ofNat i))/\f+uU A c f (n-f)=i+uU A c i (n-i)/\Fr σ σ') (n-f) ?_ ?_
 .refine⟨f,rfl,jp,hf,?_⟩
  simp(disch:=try exact jz) only[go_sem,z3,am]
  exact Fr.refl hW
 .rintro q tm σ' ⟨i,rfl,hi1,hi,t0,t2,t7,hfs,hf'⟩
  have hFr:=Fr.refl hf'.wf
  simp(disch:=try exact jz) only[go_sem,z3,t0,t2,t7,hlen,aG]
  refine aH (λhlt=>?_) (λhlt=>?_)
  .obtain⟨b6,o6,c6,T,rfl,-,bY,hT⟩:=hA.at hlt
   obtain⟨b7,o7,c7,rfl,-,dN⟩:=aW.at3 hT hc
   have bY:=hf'.ld hW bY
   have dN:=hf'.ld hW dN
   have hs:n-i=(n-(i+1))+1:=jb
   have hst:uU A c i (n-i)=if A i c=0 then uU A c (i+1) (n-(i+1))+1 else 0:=by grind[uU]
   by_cases h0:A i c=0
   .simp(disch:=try exact jz) only[go_sem,z3,t0,t2,t7,bY,dN,hz,afu,h0,gz]
    rw[ab h0]at hst
    exact⟨n-(i+1),jb,i+1,rfl,jb,jb,rfl,jb,fr⟩
   .simp(disch:=try exact jz) only[go_sem,z3,t0,t2,t7,bY,dN,hz,afu,h0,decide_false]
    rw[ae h0]at hst
    rw[ab jb]
    exact⟨by grind,fr⟩
  .have:i=n:=jb
   subst this
   have:uU A c i (i-i)=0:=by rw[Nat.sub_self];rfl
   simp(disch:=try exact jz) only[go_sem,z3,t0]
   grind
def minS(a b:Nat->Rat)(f:Rat)(j k:Nat):Rat:=if k<j then a k-f*b k else a k
def anN{σ:St}(hW:WF σ){p:Nat->Prop}{ba m:Nat}{ca:Cap}{o:Option (Nat×Nat)}{a b:Nat->Rat}{bv:B}{f:Rat}(h1:σ.h ba=some ⟨bU m a,o⟩)(hpl:plo o=true)(hrd:YT o=true)(hb:iD p σ.h bv m b)(hp:∀x,p x->x≠ba)(hm:m<=1000)
  (z0:Sz f) (za:∀k,k<m->Sz (a k)) (zb:∀k,k<m->Sz (b k)) (zm:∀k,k<m->Sz (f*b k)) (zs:∀k,k<m->Sz (a k-f*b k)):
  aC EN 206 [.c (.sl ba 0 m ca),.c bv,.agg [.bool (rn f),.str (rs f),.str (rd f)]] σ λ_ σ'=>σ'.h ba=some ⟨bU m λk=>a k-f*b k,o⟩/\aU [ba] σ σ':=by
 refine aP (xK.o _ _) xK.h ?_
 unfold xK
 dsimp only
 have hba:=hW.lt h1
 have hFr:=aU.refl (ex:=[ba]) hW
 have hz:=λ(args:List V) (σ:St) (K:V->St->Prop)=>jD (E:=EN) (K:=K) (gU.o args σ) gU.h
 unfold gU at hz
 dsimp only at hz
 simp(disch:=try exact jz) only[go_sem,z3,am]
 refine aF (λq tm σ'=>∃j,q=m-j/\j<=m/\Tr.ah tm 0=.c (.sl ba 0 m ca)/\Tr.ah tm 1=.c bv/\Tr.ah tm 5=.c (.ptr σ.aj 0)/\Tr.ah tm 8=.c (.int .i64 (.ofNat m))/\Tr.ah tm 9=.c (.int .i64 (.ofNat j))
  /\σ'.h σ.aj=some ⟨[.bool (rn f),.str (rs f),.str (rd f)],none⟩/\σ'.h ba=some ⟨bU m (minS a b f j),o⟩/\aU [ba] σ σ'/\σ.aj+1<=σ'.aj) m ?_ ?_
 .refine⟨0,jb,jb,?_⟩
  simp(disch:=try exact jz) only[go_sem,z3,am,h1]
  exact⟨bO (λl=>some (Bk.mk l o)) (dA λk _=>(ae jb).symm),by repeat(first|assumption|exact aU.refl (by assumption)|exact aU.up (by assumption) kf|exact aU.up (aU.refl (by assumption)) kf|refine aU.set1 ?_ kg kf|refine aU.jl ?_ kg|refine aU.nS ?_ kg|refine aU.oH ?_ kf),jb⟩
 .rintro q tm σ' ⟨j,rfl,hj,t0,t1,t5,t8,t9,q5,q1,hf,hnx⟩
  have hle:=hf.le
  have jM:=aU.refl (ex:=[ba]) hf.wf
  simp(disch:=try exact jz) only[go_sem,z3,t0,t1,t5,t8,t9,aG]
  refine aH (λhlt=>?_) (λhlt=>?_)
  .obtain⟨b7,o7,c7,rfl,hp7,dN⟩:=aW.at3 hb hlt
   have hne:=hp _ hp7
   have dN:=hf.ld hW kd dN
   have y1:=za j hlt
   have y2:=zb j hlt
   have y3:=zm j hlt
   have y4:=zs j hlt
   have e1:minS a b f j j=a j:=ae jb
   have hb7:=hf.wf.dw dN
   have hb1:=hf.wf.lt q1
   by_cases h0:b j=0
   .simp(disch:=try exact jz) only[go_sem,z3,t0,t1,t5,t8,t9,dN,hz,afu,h0,gz]
    refine⟨m-(j+1),jb,j+1,rfl,jb,rfl,q5,?_,by repeat(first|assumption|exact aU.refl (by assumption)|exact aU.up (by assumption) kf|exact aU.up (aU.refl (by assumption)) kf|refine aU.set1 ?_ kg kf|refine aU.jl ?_ kg|refine aU.nS ?_ kg|refine aU.oH ?_ kf),jb⟩
    grind[Go.Proofs.Xe.dA,Go.Proofs.Xe.minS]
   .simp(disch:=try exact jz) only[go_sem,z3,t0,t1,t5,t8,t9,dN,hz,afu,h0,decide_false,ak q5,ak q1,q1,hrd,hpl,aJ q1,e1]
    refine⟨m-(j+1),jb,j+1,rfl,jb,rfl,q5,bO (λl=>some (Bk.mk l o)) (dA λk _=>?_),by repeat(first|assumption|exact aU.refl (by assumption)|exact aU.up (by assumption) kf|exact aU.up (aU.refl (by assumption)) kf|refine aU.set1 ?_ kg kf|refine aU.jl ?_ kg|refine aU.nS ?_ kg|refine aU.oH ?_ kf),jb⟩
    grind[aN,minS]
  .have:j=m:=jb
   subst this
   simp(disch:=try exact jz) only[go_sem,z3,am]
   refine⟨?_,hf⟩
   rw[q1]
   exact bO (λl=>some (Bk.mk l o)) (dA λk hk=>ab hk)
def Si{n:Nat}(h:0<n):decide (n=0)=false:=az jb
def Po{n:Nat}(h:n<=16):decide (16<n)=false:=az jb
def YC{σ:St}(hW:WF σ){p:Nat->Prop}{v:B}{n m:Nat}{A:Nat->Nat->Rat}(hA:dS p σ.h v n (λ_=>m) A)(hn:0<n)(hn2:n<=16)(hm:0<m)(hm2:m<=16):
  aC EN 175 [.c v] σ λr σ'=>r=.c (.int .i64 (.ofNat 0))/\Fr σ σ':=by
 refine aP (xI.o _ _) xI.h ?_
 unfold xI
 dsimp only
 have hFr:=Fr.refl hW
 have hlen:=hA.len
 obtain⟨b6,o6,c6,T,rfl,-,bY,hT⟩:=hA.at hn
 have vJ:ld σ.h b6 (o6+0*1) 1 false=some (.c T):=bY
 have hlT:=aW.len hT
 simp(disch:=try exact jz) only[go_sem,z3,hlen,bY,vJ,hlT,Si hn,Si hm]
 refine aF (λq tm σ'=>∃i,q=n-i/\i<=n/\Tr.ah tm 0=.c (.sl b6 o6 n c6)/\Tr.ah tm 15=.c (.sl b6 o6 n c6)/\Tr.ah tm 16=.c (.int .i64 (.ofNat n))/\Tr.ah tm 17=.c (.int .i64 (.ofNat i))/\Fr σ σ') n ?_ ?_
 .refine⟨0,jb,jb,?_⟩
  simp(disch:=try exact jz) only[go_sem,z3,am]
  exact hFr
 .rintro q tm σ' ⟨i,rfl,hi,t0,t15,t16,t17,hf⟩
  have vJ:=hf.ld hW vJ
  simp(disch:=try exact jz) only[go_sem,z3,t0,t15,t16,t17,aG]
  refine aH (λhlt=>?_) (λhlt=>?_)
  .obtain⟨b7,o7,c7,T2,e7,-,dN,hT2⟩:=hA.at hlt
   cases e7
   have dN:=hf.ld hW dN
   have ayh:=aW.len hT2
   simp(disch:=try exact jz) only[go_sem,z3,t0,t15,t16,t17,vJ,dN,hlT,ayh,Rh]
   exact⟨n-(i+1),jb,i+1,rfl,jb,rfl,hf⟩
  .have:i=n:=jb
   subst this
   simp(disch:=try exact jz) only[go_sem,z3,t0,hlen,vJ,hlT,Po hn2,Po hm2,aG]
   exact hf
end Go.Proofs.Xe
end
