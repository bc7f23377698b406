import Derived.Test.YthkggcakedkboaaGreatDoorYb37
set_option linter.all false
set_option maxHeartbeats 8000000
namespace Go.Proofs.Xe
open Go.RowKit Go.Proofs.Ins
def Af(l:List Rat):Option Rat:=l.foldl YH none
def Si(l:List Rat)(q:Rat):Af (l++[q])=YH (Af l) q:=by grind[Af]
def JI:∀(l:List Rat) (m:Rat),∃k,l.foldl YH (some m)=some k/\(k=m\/k∈l)/\k<=m/\∀v∈l,k<=v
 |[],m=>⟨m,rfl,.inl rfl,aM,λv hv=>by cases hv⟩
 |a::l,m=>by
  rw[List.foldl_cons];by_cases h:a<m
  .rw[show YH (some m) a=some a from ab h];obtain⟨k,h1,h2,h3,h4⟩:=JI l a;grind
  .rw[show YH (some m) a=some m from ae h];obtain⟨k,h1,h2,h3,h4⟩:=JI l m;grind
def Vp(l:List Rat):(l=[]/\Af l=none)\/∃m,Af l=some m/\m∈l/\∀v∈l,m<=v:=by
 cases l with
 |nil=>exact .inl ⟨rfl,rfl⟩
 |cons a l=>
  obtain⟨k,h1,h2,h3,h4⟩:=JI l a
  refine .inr ⟨k,h1,?_,λv hv=>?_⟩
  .grind
  grind
theorem VI.uniq{e:fA}{n:Nat}{z x:Rat}{o o':Option Rat}(h:VI e n z x o)(h':VI e n z x o'):o=o':=by
 induction h with
 |no h=>cases h' with
  |no=>rfl
  |stop h2=>grind
  |go h2=>grind
 |stop h hs=>cases h' with
  |no h2=>grind
  |stop h2=>grind
  |go h2 hs2=>grind
 |go h hs _ ih=>cases h' with
  |no h2=>grind
  |stop h2 hs2=>grind
  |go h2 _ hr=>grind
open Classical in
noncomputable def nxE(e:fA)(n:Nat)(x:Rat):Option Rat:=if h:∃o,VI e n x x o then h.choose else none
def aj0{e:fA}{n:Nat}{x:Rat}{o:Option Rat}(h:VI e n x x o):nxE e n x=o:=by
 have h2:∃o,VI e n x x o:=⟨o,h⟩
 grind[nxE,VI.uniq]
noncomputable def mJ(g:iw)(x:Nat->Rat)(i:Nat):Option Rat:=(nxE (bY (ix g.e i)) (kE g.e i) (x i)).map λy=>y-x i
theorem Sj{W:Rat}{q r:eX->Rat}:∀(t:List eX) (a:eX) (Q R:Rat),qj W q r Q R (t++[a])=qj W q r Q R t++(if Q+aI t q+q a<W/\0<R+aI t r+r a then [(W-(Q+aI t q+q a))/(R+aI t r+r a)]else [])
 |[],a,Q,R=>by show(if _ then _ else _)++[]=[]++_;simp_all[aI,dC]
 |b::t,a,Q,R=>by show(if _ then _ else _)++qj W q r _ _ (t++[a])=((if _ then _ else _)++qj W q r _ _ t)++_;rw[Sj t a,it];have e1:aI (b::t) q=q b+aI t q:=rfl;have e2:aI (b::t) r=r b+aI t r:=rfl;rw[e1,e2,jN Q,jN R]
noncomputable def Vq(g:iw)(x d:Nat->Rat)(j:Nat):List Rat:=AZ (mJ g x) d g.e.length++((bC g).ds.take j).flatMap λd'=>qj d'.1 (gq (bC g) x) (gr (bC g) x d) 0 0 d'.2
noncomputable def DJ(g:iw)(x d:Nat->Rat)(j k:Nat):List Rat:=Vq g x d j++qj (dW g j) (gq (bC g) x) (gr (bC g) x d) 0 0 ((dL g j).take k)
def aft(g:iw)(x d:Nat->Rat)(j:Nat):DJ g x d j 0=Vq g x d j:=by unfold DJ;rw[cP];exact dT _
def aj1(g:iw)(x d:Nat->Rat){j:Nat}(h:j<g.d.length):DJ g x d j (dL g j).length=Vq g x d (j+1):=by grind[DJ,Vq,take_snoc,xK,OY]
def afu(g:iw)(x d:Nat->Rat){j k:Nat}(h:k<(dL g j).length):DJ g x d j (k+1)=DJ g x d j k++(if aI ((dL g j).take (k+1)) (gq (bC g) x)<dW g j/\0<aI ((dL g j).take (k+1)) (gr (bC g) x d)then [(dW g j-aI ((dL g j).take (k+1)) (gq (bC g) x))/aI ((dL g j).take (k+1)) (gr (bC g) x d)]else []):=by grind[DJ,take_snoc,Sj,mM]
structure NrN(D:Nat)(g:iw)(x d:Nat->Rat):Prop where
 m:U5 D g x
 nn:∀i,i<g.e.length->zU (bY (ix g.e i))/\0<=x i
 dz:∀i,i<g.e.length->Sz (d i)
 nx:∀i,i<g.e.length->0<d i->∃S:Rat->Prop,S (x i)/\(∀m,S m->∃D,Bv D/\EOk D (kE g.e i) (bY (ix g.e i))/\MOk D (bY (ix g.e i)) m/\ROk D (bY (ix g.e i)) m/\SOk (bY (ix g.e i)) m)/\∀m t,S m->Ih (bY (ix g.e i)) m=some t->S (m+t)
 ny:∀i,i<g.e.length->0<d i->∀y,nxE (bY (ix g.e i)) (kE g.e i) (x i)=some y->Sz y/\Sz (y-x i)/\Sz ((y-x i)/d i)
 c1:∀i,i<=g.e.length->Sz (gq0 (Af (AZ (mJ g x) d i)))
 c2:∀j,j<g.d.length->∀k,k<=(dL g j).length->Sz (gq0 (Af (DJ g x d j k)))/\Sz (dW g j-aI ((dL g j).take k) (gq (bC g) x))/\Sz (aI ((dL g j).take k) (gr (bC g) x d))
  /\Sz ((dW g j-aI ((dL g j).take k) (gq (bC g) x))/aI ((dL g j).take k) (gr (bC g) x d))
 c3:∀j,j<g.d.length->∀l∈dL g j,Sz (gq (bC g) x l)/\Sz (gs (bC g) x l.1 l)/\Sz (gr (bC g) x d l)
set_option maxRecDepth 10000 in
def Sr{σ:St}(hW:WF σ){sb:Nat}{g:iw}{x d:Nat->Rat}(hs:EH (Lt σ.aj) σ.h sb g){p:Nat->Prop}{xv dvv Dv Sv:B}(hx:kF p σ.h xv g.e.length x)(hd:kF p σ.h dvv g.e.length d)(hDv:dR p σ.h Dv g.e.length (kE g.e) (BH g x))(hSv:dR p σ.h Sv g.e.length (kE g.e) (Kv g x)){D:Nat}(hN:NrN D g x d):
  aC EN 71 [.c (.ptr sb 0),.c xv,.c dvv,.agg [Dv,Sv]] σ λr σ'=>r=.aW (.agg [.bool (rn (gq0 (Af (jR g.e.length (bC g) (mJ g x) x d)))),.str (rs (gq0 (Af (jR g.e.length (bC g) (mJ g x) x d)))),.str (rd (gq0 (Af (jR g.e.length (bC g) (mJ g x) x d))))]) (.aW (.c (.bool (Af (jR g.e.length (bC g) (mJ g x) x d)).isSome)) .tnil)/\Fr σ σ':=by
 refine aP (jE.o _ _) jE.h ?_
 unfold jE
 dsimp only
 have hs':=hs
 obtain⟨⟨ev,gv,lv,bv,hsb,hg,⟨R,P,hL1,hL2⟩,hB⟩,hsl⟩:=hs
 have Y0:=hN.m.A.s
 have hn:=Y0.n
 have hnd:=Y0.d
 have hD:=Y0.hD
 have hlk:=hL1.kn
 have hll:=hL1.len
 have hlD:=hg.d.len
 have hdk:=hg.d.kn
 have k1:=hDv.kn
 have k2:=hSv.kn
 have hsl:sb<σ.aj:=hsl
 have hFr:=Fr.refl hW
 simp(disch:=try exact jz) only[go_sem,z3,k1,k2,ak hsb,hll,hlk]
 refine bJ.mono (Q:=λex tm σ'=>ex=.exit 0/\Tr.ah tm 0=.c (.ptr sb 0)/\Tr.ah tm 2=.c dvv/\Tr.ah tm 7=.c (.ptr σ.aj 0)/\Tr.ah tm 8=.c (.ptr (σ.aj+1) 0)/\Tr.ah tm 10=.c (.ptr (σ.aj+1+1) 0)/\Tr.ah tm 11=.c (.ptr (σ.aj+1+1+1) 0)/\Tr.ah tm 12=.fn 114 [.ptr (σ.aj+1+1+1) 0,.ptr (σ.aj+1+1) 0]
   /\σ'.h σ.aj=some ⟨[Dv,Sv],none⟩/\σ'.h (σ.aj+1)=some ⟨[.bool (rn 0),.str (rs 0),.str (rd 0)],none⟩/\Qp σ'.h (σ.aj+1+1+1) (σ.aj+1+1) (Af (AZ (mJ g x) d g.e.length))/\Fr σ σ'/\σ.aj+1+1+1+1<=σ'.aj)
  (aF (λq tm σ'=>∃i,q=g.e.length-i/\i<=g.e.length/\Tr.ah tm 0=.c (.ptr sb 0)/\Tr.ah tm 1=.c xv/\Tr.ah tm 2=.c dvv/\Tr.ah tm 7=.c (.ptr σ.aj 0)/\Tr.ah tm 8=.c (.ptr (σ.aj+1) 0)/\Tr.ah tm 10=.c (.ptr (σ.aj+1+1) 0)/\Tr.ah tm 11=.c (.ptr (σ.aj+1+1+1) 0)/\Tr.ah tm 12=.fn 114 [.ptr (σ.aj+1+1+1) 0,.ptr (σ.aj+1+1) 0]
   /\Tr.ah tm 27=.c lv/\Tr.ah tm 28=.c (.int .i64 (.ofNat g.e.length))/\Tr.ah tm 29=.c (.int .i64 (.ofNat i))/\σ'.h σ.aj=some ⟨[Dv,Sv],none⟩/\σ'.h (σ.aj+1)=some ⟨[.bool (rn 0),.str (rs 0),.str (rd 0)],none⟩/\Qp σ'.h (σ.aj+1+1+1) (σ.aj+1+1) (Af (AZ (mJ g x) d i))/\Fr σ σ'/\σ.aj+1+1+1+1<=σ'.aj) g.e.length ?_ ?_) ?_
 .refine⟨0,jb,jb,?_⟩
  simp(disch:=try exact jz) only[go_sem,z3,am]
  refine⟨⟨aA _ _ _,?_⟩,fr,jb⟩
  rw[au _ _ _ _ jb,au _ _ _ _ jb,aA]
  rfl
 .rintro q tm σ' ⟨i,rfl,hi,t0,t1,t2,t7,t8,t10,t11,t12,t27,t28,t29,q7,q8,hO,hf,hnx⟩
  have hle:=hf.le
  have lI:=Fr.refl hf.wf
  simp(disch:=try exact jz) only[go_sem,z3,t0,t1,t2,t7,t8,t10,t11,t12,t27,t28,t29,aG]
  refine aH (λhlt=>?_) (λhlt=>?_)
  .obtain⟨b5,o5,c5,rfl,-,dw⟩:=hL1.pos jb
   have hLi:=hL2 i hlt
   have hRk:=hLi.rk.kn
   have hPk:=hLi.VJ
   obtain⟨he1,he2,-,-⟩:=Y0.e i hlt
   have dw:=hf.ld hW (dw i hlt)
   obtain⟨b6,o6,c6,e6,-,dh⟩:=aZ.at3 hd hlt
   obtain⟨b7,o7,c7,e7,-,dO⟩:=aZ.at3 hx hlt
   have azS:=hW.bH dh
   have av7:=hW.bH dO
   have dh:=hf.ld hW dh
   have dO:=hf.ld hW dO
   have a6:V.c (.sl b6 o6 g.e.length c6)=V.c dvv:=by rw[e6]
   have a7:V.c (.sl b7 o7 g.e.length c7)=V.c xv:=by rw[e7]
   rw[e6]at t2
   rw[e7]at t1
   have hb6:=hf.wf.bH dh
   have hb7:=hf.wf.bH dO
   have hb5:=hf.wf.bH dw
   have z1:=hN.dz i hlt
   unfold jA at dw
   by_cases hp:0<d i
   .have hl7:=hf.wf.lt q7
    obtain⟨S,s1,s2,s3⟩:=hN.nx i hlt hp
    obtain⟨n1,n2⟩:=hN.nn i hlt
    have hzO:=hN.c1 i hi
    obtain⟨Dx,-,-,zx,-,-⟩:=s2 _ s1
    have zx:=zx.hm
    simp(disch:=try exact jz) only[go_sem,z3,t0,t1,t2,t7,t8,t10,t11,t12,t27,t28,t29,dw,dh,dO,hRk,hPk,hp]
    refine aC.st (Fr σ') (fr) λiH=>?_
    have hf5:=hf.trans iH
    refine(asK iH.wf _ (bY (ix g.e i)) ((hLi.keep (λb hb=>hf5.old b hb) λ_ h=>h).lay) (x i) n1 n2 S s1 s2 s3).mono ?_
    rintro _ σ6 ⟨⟨o,ho,rfl⟩,gI⟩
    have lK:=iH.trans gI
    have aaI:=hf.trans lK
    have y8:σ'.aj+1+1<=σ6.aj:=gI.le
    have hy6:σ6.h (σ'.aj+1)=some ⟨[.bool (rn 0),.str (rs 0),.str (rd 0)],none⟩:=gI.get iH.wf (aA _ _ _)
    have q76:=lK.get hf.wf q7
    have q86:=lK.get hf.wf q8
    have hO6:Qp σ6.h (σ.aj+1+1+1) (σ.aj+1+1) (Af (AZ (mJ g x) d i)):=⟨lK.get hf.wf hO.f,lK.get hf.wf hO.o⟩
    have av8:=lK.ld hf.wf dh
    have av9:=lK.ld hf.wf dO
    have hno:=aj0 ho
    cases o with
    |none=>
     have hds:mJ g x i=none:=by unfold mJ;rw[hno];rfl
     have hcn:AZ (mJ g x) d (i+1)=AZ (mJ g x) d i:=by show _++_=_;rw[ab hp,hds,dT]
     unfold asJ
     simp(disch:=try exact jz) only[go_sem,z3,t0,t1,t2,t7,t8,t10,t11,t12,t27,t28,t29,ak hy6,hy6,aJ hy6]
     have hW6:=gI.wf
     refine⟨g.e.length-(i+1),jb,i+1,rfl,jb,a7,a6,rfl,q76,q86,?_,fr,jb⟩
     rw[hcn]
     exact⟨(au _ _ _ _ jb).trans hO6.f,(au _ _ _ _ jb).trans hO6.o⟩
    |some y=>
     have hds:mJ g x i=some (y-x i):=by unfold mJ;rw[hno];rfl
     have hcn:AZ (mJ g x) d (i+1)=AZ (mJ g x) d i++[(y-x i)/d i]:=by show _++_=_;rw[ab hp,hds]
     obtain⟨y1,y2,y3⟩:=hN.ny i hlt hp y hno
     unfold asJ
     simp(disch:=try exact jz) only[go_sem,z3,t0,t1,t2,t7,t8,t10,t11,t12,t27,t28,t29,ak hy6,hy6,aJ hy6,av8,av9]
     refine aC.st (Fr σ') (by have hW6:=gI.wf;exact fr) λsu=>?_
     have hO7:Qp (hset σ6.h (σ'.aj+1) ⟨[.bool (rn y),.str (rs y),.str (rd y)],none⟩) (σ.aj+1+1+1) (σ.aj+1+1) (Af (AZ (mJ g x) d i)):=⟨(au _ _ _ _ jb).trans hO6.f,(au _ _ _ _ jb).trans hO6.o⟩
     refine(ajZ su.wf hO7 jb y2 z1 hp y3 hzO).mono ?_
     rintro v8 σ8 ⟨hO8,rY⟩
     rw[<-Si,<-hcn]at hO8
     have ajn:σ6.aj<=σ8.aj:=rY.le
     have Ld:=aU.to (hf.trans su) rY λb hb=>by simp at hb;omega
     have awc:=rY.ld su.wf (by simp<;>omega) (su.ld hf.wf dh)
     have q78:=rY.get su.wf (by simp<;>omega) (su.get hf.wf q7)
     have q88:=rY.get su.wf (by simp<;>omega) (su.get hf.wf q8)
     simp(disch:=try exact jz) only[go_sem,z3,t0,t1,t2,t7,t8,t10,t11,t12,t27,t28,t29,awc]
     exact⟨g.e.length-(i+1),jb,i+1,rfl,jb,a7,a6,rfl,q78,q88,hO8,Ld,jb⟩
   .have hcn:AZ (mJ g x) d (i+1)=AZ (mJ g x) d i:=by show _++_=_;rw[ae hp,dT]
    simp(disch:=try exact jz) only[go_sem,z3,t0,t1,t2,t7,t8,t10,t11,t12,t27,t28,t29,dw,dh,hRk,hPk,hp]
    refine⟨g.e.length-(i+1),jb,i+1,rfl,jb,a7,a6,rfl,q7,q8,?_,fr,jb⟩
    rw[hcn]
    have hl7:=hf.wf.lt q7
    refine⟨?_,?_⟩
    .repeat rw[au _ _ _ _ jb]
     exact hO.f
    .repeat rw[au _ _ _ _ jb]
     exact hO.o
  .have:i=g.e.length:=jb
   subst this
   simp(disch:=try exact jz) only[go_sem,z3,am]
   exact⟨t0,t2,t7,t8,t10,t11,t12,q7,q8,hO,hf,hnx⟩
 rintro _ tm σ3 ⟨rfl,t0,t2,t7,t8,t10,t11,t12,q7,q8,hO,hf3,hn3⟩
 have hle3:=hf3.le
 have ai8:=hf3.get hW hsb
 have hcz:AZ (mJ g x) d g.e.length=Vq g x d 0:=by unfold Vq;rw[cP];exact(dT _).symm
 rw[hcz]at hO
 simp(disch:=try exact jz) only[go_sem,z3,t0,t2,t7,t8,t10,t11,t12,ak ai8,hlD,hdk]
 refine aF (λq tm σ'=>∃j,q=g.d.length-j/\j<=g.d.length/\Tr.ah tm 2=.c dvv/\Tr.ah tm 7=.c (.ptr σ.aj 0)/\Tr.ah tm 8=.c (.ptr (σ.aj+1) 0)/\Tr.ah tm 10=.c (.ptr (σ.aj+1+1) 0)/\Tr.ah tm 11=.c (.ptr (σ.aj+1+1+1) 0)/\Tr.ah tm 12=.fn 114 [.ptr (σ.aj+1+1+1) 0,.ptr (σ.aj+1+1) 0]
   /\Tr.ah tm 67=.c gv/\Tr.ah tm 68=.c (.int .i64 (.ofNat g.d.length))/\Tr.ah tm 69=.c (.int .i64 (.ofNat j))
   /\σ'.h σ.aj=some ⟨[Dv,Sv],none⟩/\σ'.h (σ.aj+1)=some ⟨[.bool (rn 0),.str (rs 0),.str (rd 0)],none⟩/\Qp σ'.h (σ.aj+1+1+1) (σ.aj+1+1) (Af (Vq g x d j))/\Fr σ σ'/\σ.aj+1+1+1+1<=σ'.aj) g.d.length ?_ ?_
 .refine⟨0,jb,jb,?_⟩
  simp(disch:=try exact jz) only[go_sem,z3,t2,t7,t8,t10,t11,t12,am]
  exact⟨q7,q8,hO,hf3,hn3⟩
 .rintro q tm σ' ⟨j,rfl,hj,t2,t7,t8,t10,t11,t12,t67,t68,t69,q7,q8,hO,hf,hnx⟩
  have hle:=hf.le
  simp(disch:=try exact jz) only[go_sem,z3,t2,t7,t8,t10,t11,t12,t67,t68,t69,aG]
  refine aH (λhlt=>?_) (λhlt=>?_)
  .obtain⟨b5,o5,c5,rfl,L1,dw,hL⟩:=hg.d.el hlt
   have dw:=hf.ld hW dw
   have hLk:=aZ.kn hL
   have hlL:=aZ.len hL
   obtain⟨hlen,IB⟩:=Y0.l j hlt
   obtain⟨hwf,hw0,hwz⟩:=Y0.w j hlt
   have lI:=Fr.refl hf.wf
   have hw2:=ru hwf
   have hmx:Ey (rq (ix g.d j).w.n (ix g.d j).w.s (ix g.d j).w.d) 0=dW g j:=by rw[OV];exact Jy hw0
   generalize hm:(ix g.d j).l.length=m at*
   have hdl:(dL g j).length=m:=(JB g j).trans hm
   have ajs:lenV (.c L1)=some (.c (.int .i64 (.ofNat m))):=hlL
   have hl7:=hf.wf.lt q7
   have hl8:=hf.wf.lt q8
   have hlf:=hf.wf.lt hO.f
   have hlo:=hf.wf.lt hO.o
   simp(disch:=try exact jz) only[go_sem,z3,t2,t7,t8,t10,t11,t12,t67,t68,t69,dw,hLk,ajs,hmx]
   refine bJ.st (Fr σ') (fr) λiH=>?_
   have hf5:=hf.trans iH
   have xU:=iH.le
   refine bJ.mono (Q:=λex tm σ4=>ex=.exit 4/\Tr.ah tm 2=.c dvv/\Tr.ah tm 7=.c (.ptr σ.aj 0)/\Tr.ah tm 8=.c (.ptr (σ.aj+1) 0)/\Tr.ah tm 10=.c (.ptr (σ.aj+1+1) 0)/\Tr.ah tm 11=.c (.ptr (σ.aj+1+1+1) 0)/\Tr.ah tm 12=.fn 114 [.ptr (σ.aj+1+1+1) 0,.ptr (σ.aj+1+1) 0]
    /\Tr.ah tm 67=.c (.sl b5 o5 g.d.length c5)/\Tr.ah tm 68=.c (.int .i64 (.ofNat g.d.length))/\Tr.ah tm 69=.c (.int .i64 (.ofNat j))/\σ4.h σ.aj=some ⟨[Dv,Sv],none⟩/\σ4.h (σ.aj+1)=some ⟨[.bool (rn 0),.str (rs 0),.str (rd 0)],none⟩/\Qp σ4.h (σ.aj+1+1+1) (σ.aj+1+1) (Af (DJ g x d j m))/\Fr σ σ4/\σ.aj+1+1+1+1<=σ4.aj)
    (aF (λq tm σ4=>∃k,q=m-k/\k<=m/\Tr.ah tm 2=.c dvv/\Tr.ah tm 7=.c (.ptr σ.aj 0)/\Tr.ah tm 8=.c (.ptr (σ.aj+1) 0)/\Tr.ah tm 10=.c (.ptr (σ.aj+1+1) 0)/\Tr.ah tm 11=.c (.ptr (σ.aj+1+1+1) 0)/\Tr.ah tm 12=.fn 114 [.ptr (σ.aj+1+1+1) 0,.ptr (σ.aj+1+1) 0]
     /\Tr.ah tm 19=.c (.ptr (σ'.aj+1) 0)/\Tr.ah tm 20=.c (.ptr (σ'.aj+1+1) 0)/\Tr.ah tm 67=.c (.sl b5 o5 g.d.length c5)/\Tr.ah tm 68=.c (.int .i64 (.ofNat g.d.length))/\Tr.ah tm 69=.c (.int .i64 (.ofNat j))/\Tr.ah tm 79=.c L1/\Tr.ah tm 80=.c (.int .i64 (.ofNat m))/\Tr.ah tm 81=.c (.int .i64 (.ofNat k))
     /\σ4.h σ.aj=some ⟨[Dv,Sv],none⟩/\σ4.h (σ.aj+1)=some ⟨[.bool (rn 0),.str (rs 0),.str (rd 0)],none⟩/\σ4.h (σ'.aj+1)=some ⟨[.bool (rn (dW g j-aI ((dL g j).take k) (gq (bC g) x))),.str (rs (dW g j-aI ((dL g j).take k) (gq (bC g) x))),.str (rd (dW g j-aI ((dL g j).take k) (gq (bC g) x)))],none⟩
     /\σ4.h (σ'.aj+1+1)=some ⟨[.bool (rn (aI ((dL g j).take k) (gr (bC g) x d))),.str (rs (aI ((dL g j).take k) (gr (bC g) x d))),.str (rd (aI ((dL g j).take k) (gr (bC g) x d)))],none⟩/\Qp σ4.h (σ.aj+1+1+1) (σ.aj+1+1) (Af (DJ g x d j k))/\Fr σ σ4/\σ'.aj+1+1+1<=σ4.aj) m ?_ ?_) ?_
   .refine⟨0,jb,jb,?_⟩
    simp(disch:=try exact jz) only[go_sem,z3,t2,t7,t8,t10,t11,t12,t67,t68,t69,am,cP]
    have e1:dW g j-aI ([]:List eX) (gq (bC g) x)=dW g j:=by show dW g j-0=dW g j;grind
    rw[e1,aft]
    refine⟨q7,q8,rfl,rfl,⟨?_,?_⟩,hf5,jb⟩
    .repeat rw[au _ _ _ _ jb]
     exact hO.f
    .repeat rw[au _ _ _ _ jb]
     exact hO.o
   .rintro q Wn σ4 ⟨k,rfl,hk,t2,t7,t8,t10,t11,t12,t19,t20,t67,t68,t69,t79,t80,Ac,q7,q8,q19,q20,hO,hf4,hn4⟩
    simp(disch:=try exact jz) only[go_sem,z3,t2,t7,t8,t10,t11,t12,t19,t20,t67,t68,t69,t79,t80,Ac,aG]
    refine aH (λhltk=>?_) (λhltk=>?_)
    .obtain⟨b8,o8,c8,e8,-,nU⟩:=aZ.pos hL (show 0<(ix g.d j).l.length by omega)
     have nU:=hf4.ld hW (nU k jb)
     rw[hm]at e8
     rw[e8]at t79
     have a8:V.c (.sl b8 o8 m c8)=V.c L1:=by rw[e8]
     obtain⟨e,c,EF,he,hc⟩:=IB k hltk
     unfold KN at nU
     rw[EF]at nU
     have hlk2:k<(dL g j).length:=jb
     have hix:ix (dL g j) k=(e,c):=by rw[ajg (by omega:k<(ix g.d j).l.length),EF];rfl
     have hmem:(e,c)∈dL g j:=by rw[<-hix];exact gy hlk2
     obtain⟨b9,o9,c9,T,eD,-,O5,hT⟩:=hDv.at he
     obtain⟨ba,oa,ca,rfl,-,afv⟩:=aZ.at3 hT hc
     obtain⟨bb,ob,cb,T2,eS,-,Yx,hT2⟩:=hSv.at he
     obtain⟨bc,oc,cc,rfl,-,JJ⟩:=aZ.at3 hT2 hc
     obtain⟨bd,od,cd,e6,-,PD⟩:=aZ.at3 hd he
     have azT:=hW.bH O5
     have azU:=hW.bH afv
     have azV:=hW.bH Yx
     have azW:=hW.bH JJ
     have hbd0:=hW.bH PD
     have uH:=hf4.le
     have O5:=hf4.ld hW O5
     have afv:=hf4.ld hW afv
     have Yx:=hf4.ld hW Yx
     have JJ:=hf4.ld hW JJ
     have PD:=hf4.ld hW PD
     rw[eD,eS]at q7
     rw[e6]at t2
     have a6:V.c (.sl bd od g.e.length cd)=V.c dvv:=by rw[e6]
     obtain⟨w1,w2,w3,-⟩:=hN.c2 j hlt k jb
     obtain⟨v1,v2,v3,v4⟩:=hN.c2 j hlt (k+1) jb
     obtain⟨u1,u2,u3⟩:=hN.c3 j hlt _ hmem
     have u1:Sz (BH g x e c):=u1
     have u2:Sz (Kv g x e c):=by have:gs (bC g) x (e,c).1 (e,c)=Kv g x e c:=ab rfl;rw[<-this];exact u2
     have u3:Sz (Kv g x e c*d e):=u3
     have u4:=hN.dz e he
     have s1:dW g j-aI ((dL g j).take k) (gq (bC g) x)-BH g x e c=dW g j-aI ((dL g j).take (k+1)) (gq (bC g) x):=by rw[take_snoc hlk2,mM,hix];show _-BH g x e c=_-(_+BH g x e c);grind
     have s2:aI ((dL g j).take k) (gr (bC g) x d)+Kv g x e c*d e=aI ((dL g j).take (k+1)) (gr (bC g) x d):=by rw[take_snoc hlk2,mM,hix];rfl
     have hsc:=afu g x d hlk2
     have Dw:=Fr.refl hf4.wf
     generalize hA:dW g j-aI ((dL g j).take (k+1)) (gq (bC g) x)=A at*
     generalize hB:aI ((dL g j).take (k+1)) (gr (bC g) x d)=Bq at*
     have zA:=v2
     have zB:=v3
     rw[<-s1]at v2
     rw[<-s2]at v3
     have g7:∀b,b≠σ4.aj->b≠σ'.aj+1->b≠σ'.aj+1+1->(hset (hset (hset (hset σ4.h σ4.aj ⟨[.int .i64 (.ofNat 0),.int .i64 (.ofNat 0)],none⟩) σ4.aj ⟨[.int .i64 (.ofNat e),.int .i64 (.ofNat c)],none⟩) (σ'.aj+1) ⟨[.bool (rn A),.str (rs A),.str (rd A)],none⟩) (σ'.aj+1+1) ⟨[.bool (rn Bq),.str (rs Bq),.str (rd Bq)],none⟩) b=σ4.h b:=λb k1 k2 k3=>by rw[au _ _ _ _ k3,au _ _ _ _ k2,au _ _ _ _ k1,au _ _ _ _ k1]
     have hO7:Qp (hset (hset (hset (hset σ4.h σ4.aj ⟨[.int .i64 (.ofNat 0),.int .i64 (.ofNat 0)],none⟩) σ4.aj ⟨[.int .i64 (.ofNat e),.int .i64 (.ofNat c)],none⟩) (σ'.aj+1) ⟨[.bool (rn A),.str (rs A),.str (rd A)],none⟩) (σ'.aj+1+1) ⟨[.bool (rn Bq),.str (rs Bq),.str (rd Bq)],none⟩) (σ.aj+1+1+1) (σ.aj+1+1) (Af (DJ g x d j k)):=⟨(g7 _ jb jb jb).trans hO.f,(g7 _ jb jb jb).trans hO.o⟩
     by_cases h1:0<A
     .by_cases h2:0<Bq
      .simp(disch:=try exact jz) only[go_sem,z3,t2,t7,t8,t10,t11,t12,t19,t20,t67,t68,t69,t79,t80,Ac,nU,O5,afv,Yx,JJ,PD,ak q7,ak q19,q19,aJ q19,ak q20,q20,aJ q20,s1,s2,h1,h2]
       refine aC.st (Fr σ) (fr) λsu=>?_
       refine(ajZ su.wf hO7 jb zA zB h2 v4 w1).mono ?_
       rintro v8 σ8 ⟨hO8,rY⟩
       have hcn:DJ g x d j (k+1)=DJ g x d j k++[A/Bq]:=by rw[hsc,ab ⟨by grind,h2⟩]
       rw[<-Si,<-hcn]at hO8
       have ajn:σ4.aj+1<=σ8.aj:=rY.le
       have Ld:=aU.to su rY λb hb=>by simp at hb;omega
       have q78:=rY.get su.wf (by simp<;>omega) ((g7 _ jb jb jb).trans q7)
       have q88:=rY.get su.wf (by simp<;>omega) ((g7 _ jb jb jb).trans q8)
       have ayn:=rY.get su.wf (by simp<;>omega) ((au _ _ _ _ (show σ'.aj+1≠σ'.aj+1+1 by omega)).trans (aA _ _ _))
       have ayo:=rY.get su.wf (by simp<;>omega) (aA _ _ _)
       simp(disch:=try exact jz) only[go_sem,z3,t2,t7,t8,t10,t11,t12,t19,t20,t67,t68,t69,t79,t80,Ac]
       refine⟨m-(k+1),jb,k+1,rfl,jb,a6,a8,rfl,?_,q88,?_,?_,?_,Ld,jb⟩
       .rw[eD,eS];exact q78
       .rw[hA];exact ayn
       .rw[hB];exact ayo
       .exact hO8
      .simp(disch:=try exact jz) only[go_sem,z3,t2,t7,t8,t10,t11,t12,t19,t20,t67,t68,t69,t79,t80,Ac,nU,O5,afv,Yx,JJ,PD,ak q7,ak q19,q19,aJ q19,ak q20,q20,aJ q20,s1,s2,h1,h2]
       have hcn:DJ g x d j (k+1)=DJ g x d j k:=by rw[hsc,ae λh=>h2 h.2,dT]
       refine⟨m-(k+1),jb,k+1,rfl,jb,a6,a8,rfl,?_,q8,?_,?_,?_,fr,jb⟩
       .rw[eD,eS];exact q7
       .rw[hA]
       .rw[hB]
       .rw[hcn];exact hO7
     .simp(disch:=try exact jz) only[go_sem,z3,t2,t7,t8,t10,t11,t12,t19,t20,t67,t68,t69,t79,t80,Ac,nU,O5,afv,Yx,JJ,PD,ak q7,ak q19,q19,aJ q19,ak q20,q20,aJ q20,s1,s2,h1]
      have hcn:DJ g x d j (k+1)=DJ g x d j k:=by rw[hsc,ae λh=>h1 kd,dT]
      refine⟨m-(k+1),jb,k+1,rfl,jb,a6,a8,rfl,?_,q8,?_,?_,?_,fr,jb⟩
      .rw[eD,eS];exact q7
      .rw[hA]
      .rw[hB]
      .rw[hcn];exact hO7
    .have:k=m:=jb
     subst this
     simp(disch:=try exact jz) only[go_sem,z3,am]
     exact⟨t2,t7,t8,t10,t11,t12,t67,t68,t69,q7,q8,hO,hf4,jb⟩
   .rintro _ tm σ4 ⟨rfl,t2,t7,t8,t10,t11,t12,t67,t68,t69,q7,q8,hO,hf4,hn4⟩
    rw[<-hdl,aj1 g x d hlt]at hO
    simp(disch:=try exact jz) only[go_sem,z3,t2,t7,t8,t10,t11,t12,t67,t68,t69]
    exact⟨g.d.length-(j+1),jb,j+1,rfl,jb,rfl,q7,q8,hO,hf4,hn4⟩
  .have:j=g.d.length:=jb
   subst this
   have hcs:Vq g x d g.d.length=jR g.e.length (bC g) (mJ g x) x d:=by unfold Vq jR;rw[fv (by rw[xK];exact jp)]
   rw[hcs]at hO
   have o1:=hO.f
   have o2:=hO.o
   simp(disch:=try exact jz) only[go_sem,z3,t8,t10,t11,ak o1,ak o2,o1,o2,aJ q8,q8]
   exact fr
def Vr{l:fP}:∀{m g:Rat},Jm l->mG l m=some g->m+g<=jr l:=by
 induction l with
 |nil=>intro m g _ h;cases h
 |cons t l ih=>
  intro m g hn h
  have h1:=y7 (l:=l) λu hu=>hn u (by simp[hu])
  unfold mG at h
  show m+g<=aT t+jr l
  split at h
  .grind
  .have:=ih (λu hu=>hn u (by simp[hu])) h;grind
def Pz{l:fP}:∀{m:Rat},Jm l->jg l m<=jr l:=by
 induction l with
 |nil=>intro m _;rfl
 |cons t l ih=>
  intro m hn
  have h1:=y7 (l:=l) λu hu=>hn u (by simp[hu])
  have h2:=ih (m:=m-aT t) λu hu=>hn u (by simp[hu])
  grind[jg,jr]
def anW{l:fP}(h:Jm l){m:Rat}(h0:0<=m):jg l m<=m:=by have h1:=Jo h aM h0;grind[Og,y7]
def Vs{A n:Nat}{U:Rat}:∀{l:fP},xI (λq=>dX A q/\0<=q/\q<=U) n l->jr l<=(dH l:Rat)*U
 |[],_=>by show(0:Rat)<=((0:Nat):Rat)*U;simp
 |t::l,h=>by have h1:=Vs (l:=l) λu hu=>h u (by simp[hu]);have h2:=X8 (h t kc);show aT t+jr l<=((t.length+dH l:Nat):Rat)*U;grind
def aa7{n:Nat}{e:fA}(hN:zU e)(hI:InE n e){x:Rat}(hx:0<=x):aB n (rX e x)<=jr e.rk:=by
 rw[KU hN hI hx];have h1:=Pz (m:=x) hN.rk;have h2:0<=aI e.ps (λp=>kD e x p-jg p.2 (kD e x p)):=kH λp hp=>by have:=anW (hN.ps p hp) (l7 hN hx p);grind
 have h3:0<=YV e x:=kH λp hp=>Oc (hN.ps p hp) _ (l7 hN hx p);grind
def ac9{W:Rat}{q:eX->Rat}{j:Nat}:∀(t:List eX) (Q:Rat),(∀l∈t,0<=q l)->qh W q Q t j<=aI t q
 |[],_,_=>aM
 |l::t,Q,h=>by
  have h1:=ac9 t (Q+q l) (W:=W) (j:=j) λu hu=>h u (by simp[hu]);have h2:=h l kc;have h3:nI (Q+q l-W)-nI (Q-W)<=q l:=by unfold nI;split<;>split<;>grind
  show(if l.1=j then _ else 0)+qh W q (Q+q l) t j<=q l+aI t q;split<;>grind
def anX(e:fA)(x:Rat):opn e x<=e.rk.length+Oh e x e.ps:=by unfold opn;omega
def ada{e:fA}{x:Rat}{k:Nat}:∀{l:List (List Nat×fP)},(∀p∈l,p.2.length<=k)->Oh e x l<=l.length*k
 |[],_=>bw _
 |p::l,h=>by have h1:=ada (e:=e) (x:=x) (l:=l) λq hq=>h q (by simp[hq]);grind[Oh,Nat.succ_mul]
def Vt{A C K:Nat}{a b:Rat}(hA:0<A)(hC:0<C)(ha:dX (A*C) a)(hb:dX C b)(h0:0<b)(hk:b<=(K:Rat)):∃s,0<s/\s<=K*C/\dX (A*s) (a/b):=by
 obtain⟨e,hs⟩:=UM hC hb h0;generalize nuA C b=s at*;refine⟨s,hs,?_,?_⟩
 .refine OT ?_;have hp:=Pg hC;have h1:=bh hk (eO hp);rw[e,dt (iG hC)]at h1;grind
 .obtain⟨z,rfl⟩:=ha;refine⟨z,?_⟩;grind
def adb{W:Rat}{q r:eX->Rat}:∀(t:List eX) (Q R:Rat),∀v∈qj W q r Q R t,∃k,k<t.length/\v=(W-(Q+aI (t.take (k+1)) q))/(R+aI (t.take (k+1)) r)/\0<R+aI (t.take (k+1)) r
 |[],_,_,v,hv=>by cases hv
 |l::t,Q,R,v,hv=>by
  unfold qj at hv;rcases bA.mp hv with hv|hv
  .split at hv
   .next hh=>
    have e:v=(W-(Q+q l))/(R+r l):=by grind
    have e1:aI ((l::t).take (0+1)) q=q l:=by grind[aI]
    have e2:aI ((l::t).take (0+1)) r=r l:=by grind[aI]
    exact⟨0,by simp,by grind,by grind⟩
   grind
  .obtain⟨k,h1,h2,h3⟩:=adb t _ _ v hv;have e1:∀f:eX->Rat,aI ((l::t).take (k+1+1)) f=f l+aI (t.take (k+1)) f:=λf=>rfl;refine⟨k+1,by grind,?_,?_⟩
   .grind
   grind
def EL(n q:Nat)(d:Nat->Rat):Prop:=∃Q:Nat,0<Q/\Q<=2^q/\∀i,i<n->∃z:Int,d i=(z:Rat)/(Q:Rat)/\z.natAbs<=2^q
def EL.rat{n q:Nat}{d:Nat->Rat}(h:EL n q d){i:Nat}(hi:i<n):lJ q (d i):=by obtain⟨Q,h1,h2,h3⟩:=h;obtain⟨z,e,hz⟩:=h3 i hi;exact⟨z,Q,h1,h2,hz,e⟩
def lJ.le{q:Nat}{v:Rat}(h:lJ q v):v<=((2^q:Nat):Rat):=by obtain⟨z,Q,h1,h2,h3,rfl⟩:=h;have hp:=Pg h1;have h4:((z:Int):Rat)<=(((2^q:Nat):Int):Rat):=gx.mpr jb;have h5:((1:Nat):Rat)<=(Q:Rat):=bo.mpr h1;have e1:((1:Nat):Rat)=1:=rfl;have h6:(0:Rat)<=((2^q:Nat):Rat):=bo.mpr (bw _);have h4:((z:Int):Rat)<=((2^q:Nat):Rat):=h4;generalize ((2^q:Nat):Rat)=N at*;refine js.mp λhlt=>?_;have h7:=eI hlt hp;rw[dt (iG h1)]at h7;have h8:=cW h5 h6;grind
def afw(B b r:Nat)(v:Rat):Prop:=lJ r v/\∃H,B∣H/\0<H/\H<=2^b/\dX H v
section
variable {g:iw} {B b q:Nat} {x d:Nat→Rat}
theorem jS.tot(h:jS g){i:Nat}(hi:i<g.e.length):0<=jr (bY (ix g.e i)).rk/\jr (bY (ix g.e i)).rk<=2880:=by refine⟨y7 (h.ed i hi).nn.rk,?_⟩;have h1:=Vs (h.ed i hi).rk;have h2:((dH (bY (ix g.e i)).rk:Nat):Rat)<=((48:Nat):Rat):=bo.mpr (h.er i hi).1;grind
def jS.lay(h:jS g){i:Nat}(hi:i<g.e.length):zU (bY (ix g.e i))/\InE (kE g.e i) (bY (ix g.e i)):=yK ((Ir h.z).e i hi)
def jS.ao9(h:jS g)(hx:∀i,i<g.e.length->0<=x i){i:Nat}(hi:i<g.e.length):aB (kE g.e i) (λc=>gq (bC g) x (i,c))<=2880:=by obtain⟨h1,h2⟩:=h.lay hi;have e:(λc=>gq (bC g) x (i,c))=rX (bY (ix g.e i)) (x i):=rfl;rw[e];exact cL (aa7 h1 h2 (hx i hi)) (h.tot hi).2
def jS.aj2(h:jS g)(hx:∀i,i<g.e.length->0<=x i){l:eX}(hl:l∈(bC g).fH):0<=gq (bC g) x l/\gq (bC g) x l<=2880:=by have hk:=h.JH;have hk:=hk.fH l hl;have h1:l.1<g.e.length:=hk.1;have h2:l.2<kE g.e l.1:=hk.2;clear hk;refine⟨Jr (h.nn h1) (hx _ h1) _,?_⟩;have h3:=Di (f:=λc=>gq (bC g) x (l.1,c)) (k:=l.2) (n:=kE g.e l.1) h2 λc _=>Jr (h.nn h1) (hx _ h1) c;exact cL h3 (h.ao9 hx h1)
def jS.aaG(h:jS g){d:Rat×List eX}(hd:d∈(bC g).ds):pR 60 60 d.1/\d.2.length<=4/\∀l∈d.2,l∈(bC g).fH:=by
 have hd':=hd;obtain⟨D,hD,rfl⟩:=cT.mp hd';obtain⟨j,hj,ej⟩:=aL hD;have e0:D=ix g.d j:=by grind[fD]
 subst e0;obtain⟨h1,-,h2⟩:=h.d j hj;exact⟨h2,by grind,λl hl=>cF.mpr ⟨_,hd,hl⟩⟩
def jS.awd(h:jS g)(hx:∀i,i<g.e.length->0<=x i)(j:Nat):gG g.e.length (bC g) x j<=90000:=by
 have h1:aB g.e.length (λi=>aB ((bC g).k i) λc=>if wu (bC g) j i c then gq (bC g) x (i,c)else 0)<=(g.e.length:Rat)*2880:=by
  have key:∀n,n<=g.e.length->aB n (λi=>aB ((bC g).k i) λc=>if wu (bC g) j i c then gq (bC g) x (i,c)else 0)<=(n:Rat)*2880:=λn=>by
   induction n with
   |zero=>intro _;show(0:Rat)<=((0:Nat):Rat)*2880;simp
   |succ n ih=>
    intro hn
    have a:=ih jb
    have b:=h.ao9 hx (i:=n) jb
    have c:aB ((bC g).k n) (λc=>if wu (bC g) j n c then gq (bC g) x (n,c)else 0)<=aB (kE g.e n) (λc=>gq (bC g) x (n,c)):=nR λc _=>by have:0<=gq (bC g) x (n,c):=Jr (h.nn (by omega:n<g.e.length)) (hx _ jb) c;grind
    have e:((n+1:Nat):Rat)=(n:Rat)+1:=gL _ _
    grind[aB]
  grind
 have h2:aI (bC g).ds (dG (bC g) x j)<=((3:Nat):Rat)*11580:=rJ jj (λd hd=>by obtain⟨a1,a2,a3⟩:=h.aaG hd;have b1:=ac9 (W:=d.1) (q:=gq (bC g) x) (j:=j) d.2 0 λl hl=>(h.aj2 hx (a3 l hl)).1;have b2:=rJ (f:=gq (bC g) x) (v:=2880) jj (l:=d.2) (k:=4) (λl hl=>(h.aj2 hx (a3 l hl)).2) a2;grind[ab5,dG]) (by show(g.d.map _).length<=3;rw[df];exact h.d3)
 have h3:((g.e.length:Nat):Rat)<=((8:Nat):Rat):=bo.mpr h.n;grind[gG]
def jS.apa(h:jS g){i:Nat}(hi:i<g.e.length)(y:Rat):opn (bY (ix g.e i)) y<=16:=by obtain⟨-,h1,h2,h3⟩:=h.er i hi;have a:=anX (bY (ix g.e i)) y;have b:=ada (e:=bY (ix g.e i)) (x:=y) λp hp=>(h3 p hp).2;omega
def awe{n:Nat}{e:fA}(h:ED 60 60 n e)(hb:EB n e)(hB:0<B)(h6:60∣B){y s:Rat}(hy:dX B y)(h0:0<=y)(hs:Ih e y=some s):∃u v:Rat,s=u/v/\0<u/\dX (B*BD 60 e y) u/\0<v/\dX (BD 60 e y) v/\v<=1000/\y+s<=jr e.rk:=by
 have hE:=Iq jj h h0;have hp:=cw hB hE;have hp1:=cw hB (rH jj h.rk.D h0);unfold Ih at hs;split at hs
 .next g hg=>
  cases hs;have ht:=Vr h.nn.rk hg;have hl:=(vZ e y e.ps g).1;rcases AA e y e.ps g with e1|⟨p,hpp,d,h1,h2,h3⟩
  .rw[e1];exact⟨g,1,by grind,yH hg,(Yo hB h6 h.rk.D hy hg).dvd (aR _ _) hp,jj,⟨BD 60 e y,by have:=iG hE;have e2:(((BD 60 e y:Nat):Int):Rat)=((BD 60 e y:Nat):Rat):=rfl;grind⟩,jj,ht⟩
  .refine⟨d,_,h3,yH h1,(Yo hp1 (bL h6 (aR _ _)) (h.ps p hpp).D (XP jj hB h6 h hy h0 p) h1).dvd ?_ hp,h2,(acF jj h h0 p).dvd (aR _ _) hE,Pj h.uq hb h0 hpp,by grind⟩;exact cH _ (aR _ _)
 grind
def ChS(B b:Nat)(e:fA)(y:Rat):Prop:=∃B' k,B∣B'/\0<B'/\B'<=2^(b+61*k)/\k+opn e y<=16/\dX B' y/\0<=y/\y<=100000
def ChS.next(h:jS g){i:Nat}(hi:i<g.e.length)(h6:60∣B){y s:Rat}(hy:ChS B b (bY (ix g.e i)) y)(hs:Ih (bY (ix g.e i)) y=some s):ChS B b (bY (ix g.e i)) (y+s):=by obtain⟨B',k,h1,h2,h3,h4,h5,h7,h8⟩:=hy;obtain⟨u,v,rfl,u0,uD,v0,vD,v1,ht⟩:=awe (h.ed i hi) (h.eb i hi) h2 (bL h6 h1) h5 h7 hs;obtain⟨p1,p2⟩:=h.cur hi h7;obtain⟨w,w0,w1,wD⟩:=Vt (K:=1000) h2 p1 uD vD v0 v1;have hop:=AB (h.nn hi) h7 hs;have hd:=div_pos u0 v0;have ht2:=(h.tot hi).2;have hw:w<=2^61:=av w1 (av (cA _ p2) jj);refine⟨B'*w,k+1,bL h1 (aR _ _),cw h2 w0,?_,jb,(h5.dvd (aR _ _) (cw h2 w0)).add wD,by grind,by grind⟩;have:=oJ h3 hw;omega
def Gf{b:Nat}{D:Nat}{v:Rat}(hD:0<D)(hb:D<=2^b)(h:dX D v)(h0: -100000<=v)(h1:v<=100000):lJ (b+17) v:=by have e:((100000:Nat):Rat)=100000:=rfl;exact Vh (K:=100000) hD hb h jj jb jb
def ChS.ok(h:jS g){i:Nat}(hi:i<g.e.length)(h6:60∣B)(hb:b<=190000000){y:Rat}(hy:ChS B b (bY (ix g.e i)) y):∃D,Bv D/\EOk D (kE g.e i) (bY (ix g.e i))/\MOk D (bY (ix g.e i)) y/\ROk D (bY (ix g.e i)) y/\SOk (bY (ix g.e i)) y:=by
 obtain⟨B',k,h1,h2,h3,h4,h5,h7,h8⟩:=hy;obtain⟨p1,p2⟩:=h.cur hi h7;have h6':=bL h6 h1;have hpos:=cw h2 p1;have hle:=oJ h3 p2;have hD:Bv (B'*BD 60 (bY (ix g.e i)) y):=aa5 hpos hle jb;have hv:y<=vQ:=by have a:=OE (k:=100000) jj;grind
 have hE:=h.ed i hi;have hB:=h.eb i hi;have hN:=h.nn hi;have ht:=(h.tot hi).2;obtain⟨-,-,-,hps⟩:=h.er i hi;have hp1:=cw h2 (rH jj hE.rk.D h7);have hdl:B'*wz 60 (bY (ix g.e i)).rk y∣B'*BD 60 (bY (ix g.e i)) y:=cH _ (aR _ _);refine⟨_,hD,aiE hD (bL h6' (aR _ _)) hE.uq hB,aiF jj h2 h6' hD (iN _) hE.uq hB h5 h7 hv,aiG jj h2 h6' hD (iN _) hE.uq hB h5 h7 hv,λs hs=>?_,λp hp s hs=>?_⟩
 .have a:=Vr hN.rk hs;have c:=yH hs;exact(Gf h2 h3 (Yo h2 h6' hE.rk.D h5 hs) kd kd).sz jb
 .have a:=Vr (hN.ps p hp) hs;have c:=yH hs;have d0:=l7 hN h7 p;have t1:=Vs (hE.ps p hp);have t2:((dH p.2:Nat):Rat)<=((28:Nat):Rat):=bo.mpr (hps p hp).1;have e28:((28:Nat):Rat)=28:=rfl;have gD:=(Yo hp1 (bL h6' (aR _ _)) (hE.ps p hp).D (XP jj h2 h6' hE h5 h7 p) hs).dvd hdl hpos;have z1:=Gf hpos hle gD kd kd;have r0:=Jq hN h7 p;have r1:=Pj hE.uq hB h7 hp;refine⟨z1.sz jb,?_⟩;by_cases e:rW (bY (ix g.e i)) y p=0
  .grind[Sz.zero]
  .exact(z1.div (Gf p1 p2 ((acF jj hE h7 p).dvd (aR _ _) p1) kd kd) e).sz jb
def ChS.aj(h:jS g){i:Nat}(hi:i<g.e.length)(h6:60∣B){n:Nat}{z y:Rat}{o:Option Rat}(hN:VI (bY (ix g.e i)) n z y o)(hy:ChS B b (bY (ix g.e i)) y):∀w,o=some w->ChS B b (bY (ix g.e i)) w:=by
 induction hN with
 |no h=>simp
 |stop hs _=>intro w hw;cases hw;exact hy.next h hi h6 hs
 |go hs _ _ ih=>exact ih (hy.next h hi h6 hs)
def aj3(h:jS g){i:Nat}(hi:i<g.e.length)(hx:0<=x i):VI (bY (ix g.e i)) (kE g.e i) (x i) (x i) (nxE (bY (ix g.e i)) (kE g.e i) (x i))/\F5 (bY (ix g.e i)) (kE g.e i) (x i) (mJ g x i):=by obtain⟨o,ho⟩:=aia (bY (ix g.e i)) (kE g.e i) (h.nn hi) (x i) _ (x i) hx jp;have e:=aj0 ho;refine⟨by grind,?_⟩;unfold mJ;rw[e];exact(ace (h.nn hi) ho hx λ_ _=>rfl).d3
end
def aj6{r:Nat}{l:List Rat}(h:∀v∈l,lJ r v)(hr:r<=200000000):Sz (gq0 (Af l)):=by
 rcases Vp l with⟨-,e⟩|⟨m,e,hm,-⟩
 .rw[e];exact Sz.zero
 .rw[e];exact(h m hm).sz hr
section
variable {g:iw} {B b q:Nat} {x d:Nat→Rat}
def jS.ch0(h:jS g)(hB0:0<B)(hb:B<=2^b)(hx:∀i,i<g.e.length->SmB B (x i)){i:Nat}(hi:i<g.e.length):ChS B b (bY (ix g.e i)) (x i):=
 ⟨B,0,iN _,hB0,jb,by have:=h.apa hi (x i);omega,(hx i hi).1,(hx i hi).2.1,(hx i hi).2.2⟩
def jS.ny(h:jS g)(hB0:0<B)(h6:60∣B)(hb:B<=2^b)(hx:∀i,i<g.e.length->SmB B (x i))(hdz:EL g.e.length q d){i:Nat}(hi:i<g.e.length)(hp:0<d i){y:Rat}(hy:nxE (bY (ix g.e i)) (kE g.e i) (x i)=some y):
  lJ (b+993) y/\lJ (b+993) (y-x i)/\afw B (b+1000+2*q) (b+2000+2*q) ((y-x i)/d i):=by
 obtain⟨h1,-⟩:=aj3 h hi (hx i hi).2.1 (x:=x)
 rw[hy]at h1
 have hyx:=((ace (h.nn hi) h1 (hx i hi).2.1 λ_ _=>rfl).yes y rfl).1
 obtain⟨B',k,c1,c2,c3,c4,c5,c6,c7⟩:=ChS.aj h hi h6 h1 (h.ch0 hB0 hb hx hi) y rfl
 obtain⟨xD,x0,x1⟩:=hx i hi
 have c3:B'<=2^(b+976):=av c3 (yN jb)
 have hD:=c5.sub (xD.dvd c1 c2)
 have z1:=Gf c2 c3 c5 (by clear c3;grind) c7
 have z2:=Gf c2 c3 hD (by clear c3;grind) (by clear c3;grind)
 have z3:=hdz.rat hi
 refine⟨z1,z2,(z2.div z3 (by clear c3;grind)).mono jb,?_⟩
 obtain⟨Q,q1,q2,q3⟩:=hdz
 obtain⟨z,ez,-⟩:=q3 i hi
 obtain⟨w,w0,w1,wD⟩:=Vt (K:=2^q) c2 q1 (hD.dvd (aR _ _) (cw c2 q1)) ⟨z,ez⟩ hp z3.le
 refine⟨B'*w,bL c1 (aR _ _),cw c2 w0,?_,wD⟩
 have:=oJ c3 (av w1 (oJ jp q2))
 exact av this (yN jb)
def jS.c_e(h:jS g)(hB0:0<B)(h6:60∣B)(hb:B<=2^b)(hx:∀i,i<g.e.length->SmB B (x i))(hdz:EL g.e.length q d){i:Nat}(hi:i<=g.e.length):∀v∈AZ (mJ g x) d i,afw B (b+1000+2*q) (b+2000+2*q) v:=λv hv=>by
 obtain⟨k,h1,h2,y,h3,rfl⟩:=(xM i).mp hv;unfold mJ at h3;cases ho:nxE (bY (ix g.e k)) (kE g.e k) (x k)with
 |none=>grind
 |some w=>
  rw[ho]at h3
  cases h3
  exact(h.ny hB0 h6 hb hx hdz jb h2 ho).2.2
def jS.ds(h:jS g){j:Nat}(hj:j<g.d.length):(dW g j,dL g j)∈(bC g).ds:=by rw[<-OY hj];grind[gy,xK]
def jS.c_d(h:jS g)(hB0:0<B)(h6:60∣B)(hb:B<=2^b)(hx:∀i,i<g.e.length->SmB B (x i))(hd:∀i,i<g.e.length->0<=d i)(hdz:EL g.e.length q d){j:Nat}(hj:j<g.d.length)(k:Nat):
  lJ (b+425) (dW g j-aI ((dL g j).take k) (gq (bC g) x))/\lJ (430+2*q) (aI ((dL g j).take k) (gr (bC g) x d))/\(0<aI ((dL g j).take k) (gr (bC g) x d)->afw B (b+1000+2*q) (b+2000+2*q) ((dW g j-aI ((dL g j).take k) (gq (bC g) x))/aI ((dL g j).take k) (gr (bC g) x d))):=by
 have hx0:∀i,i<g.e.length->0<=x i:=λi hi=>(hx i hi).2.1
 obtain⟨p1,p2⟩:=h.gE hx0
 have heB:=YB
 obtain⟨w1,w2,w3⟩:=h.aaG (h.ds hj)
 have hl:∀l∈(dL g j).take k,l∈(bC g).fH:=λl hl=>w3 l (eQ hl)
 have hk:((dL g j).take k).length<=4:=by grind
 generalize (dL g j).take k=t at hl hk
 have hln:∀l∈t,l.1<g.e.length:=λl hlt=>(h.JH.fH l (hl l hlt)).1
 have hBE:=cw hB0 p1
 have awf:=oJ hb p2
 have w1:pR 60 60 (dW g j):=w1
 have nD:dX (B*Xe.gE g x) (dW g j-aI t (gq (bC g) x)):=by refine(w1.1.dvd (bL h6 (aR _ _)) hBE).sub (dX.sum λl hlt=>?_);have hi:=hln l hlt;exact(aiz jj hB0 h6 (h.ed l.1 hi) (hx l.1 hi).1 (hx l.1 hi).2.1 l.2).dvd (cH _ (Pv x hi)) hBE
 have q0:0<=aI t (gq (bC g) x):=kH λl hlt=>(h.aj2 hx0 (hl l hlt)).1
 have q1:=rJ (f:=gq (bC g) x) (v:=2880) jj (l:=t) (k:=4) (λl hlt=>(h.aj2 hx0 (hl l hlt)).2) hk
 have e4:((4:Nat):Rat)=4:=rfl
 have w2:=w1.2
 have zn:=Gf hBE awf nD kd kd
 have hdr:=λi (hi:i<g.e.length)=>hdz.rat hi
 obtain⟨Q,a1,a2,a3⟩:=hdz
 have hEQ:=cw p1 a1
 have apb:=oJ p2 a2
 have dD:dX (Xe.gE g x*Q) (aI t (gr (bC g) x d)):=dX.sum λl hlt=>by have hi:=hln l hlt;obtain⟨z,ez,-⟩:=a3 l.1 hi;exact dX.mul p1 a1 (h.slD hx0 hi l.2) ⟨z,ez⟩
 have hN:(0:Rat)<=((2^q:Nat):Rat):=bo.mpr (bw _)
 have hgr:∀l∈t,0<=gr (bC g) x d l/\gr (bC g) x d l<=1000001*((2^q:Nat):Rat):=λl hlt=>by have hi:=hln l hlt;have s1:=qX (h.nn hi) (hx0 _ hi) l.2;have s2:=U9 (h.ed l.1 hi).uq (h.eb l.1 hi) (hx0 _ hi) l.2;have s3:=hd l.1 hi;have s4:=(hdr l.1 hi).le;refine⟨cj s1 s3,?_⟩;have s5:=bh s2 s3;have s6:=cW s4 (show(0:Rat)<=1000001 by decide);show xH (bY (ix g.e l.1)) (x l.1) l.2*d l.1<=_;grind
 have r0:0<=aI t (gr (bC g) x d):=kH λl hlt=>(hgr l hlt).1
 have r1:=rJ (f:=gr (bC g) x d) (v:=1000001*((2^q:Nat):Rat)) (cj jj hN) (l:=t) (k:=4) (λl hlt=>(hgr l hlt).2) hk
 have hK:((4000004*2^q:Nat):Rat)=((4:Nat):Rat)*(1000001*((2^q:Nat):Rat)):=by rw[fw,e4];have:((4000004:Nat):Rat)=4000004:=rfl;rw[this];grind
 rw[<-hK]at r1
 have hK2:4000004*2^q<=2^(22+q):=by rw[eJ];exact bp _ jj
 have zd:=(Vh hEQ apb dD hK2 (by have:(0:Rat)<=((4000004*2^q:Nat):Rat):=bo.mpr (bw _);grind) r1)
 have zd:lJ (430+2*q) (aI t (gr (bC g) x d)):=zd.mono jb
 refine⟨zn.mono jb,zd,λhpos=>⟨(zn.div zd kd).mono jb,?_⟩⟩
 obtain⟨w,v0,v1,vD⟩:=Vt hB0 hEQ (nD.dvd (cH _ (aR _ _)) (cw hB0 hEQ)) dD hpos r1
 refine⟨B*w,aR _ _,cw hB0 v0,?_,vD⟩
 have:=oJ hb (av v1 (oJ hK2 apb))
 exact av this (yN jb)
def jS.c_p(h:jS g)(hB0:0<B)(h6:60∣B)(hb:B<=2^b)(hx:∀i,i<g.e.length->SmB B (x i))(hd:∀i,i<g.e.length->0<=d i)(hdz:EL g.e.length q d){D:Rat×List eX}(hD:D∈(bC g).ds){k:Nat}:∀v∈qj D.1 (gq (bC g) x) (gr (bC g) x d) 0 0 (D.2.take k),afw B (b+1000+2*q) (b+2000+2*q) v:=λv hv=>by
 obtain⟨j,hj,ej⟩:=aL hD;have hj2:j<g.d.length:=by grind[xK]
 have e0:D=(dW g j,dL g j):=by rw[<-ej,<-OY hj2];grind[fD]
 subst e0;obtain⟨k',h1,h2,h3⟩:=adb _ _ _ v hv;rw[gH]at h2 h3;rw[gH,List.take_take]at h2;rw[List.take_take]at h3;rw[h2];exact(h.c_d hB0 h6 hb hx hd hdz hj2 _).2.2 h3
def jS.nr(h:jS g)(hB0:0<B)(h6:60∣B)(hb:B<=2^b)(hb2:b<=190000000)(hx:∀i,i<g.e.length->SmB B (x i))(hd:∀i,i<g.e.length->0<=d i)(hdz:EL g.e.length q d)(hq:q<=1000000):
  NrN (B*Xe.gE g x) g x d/\∀v∈jR g.e.length (bC g) (mJ g x) x d,afw B (b+1000+2*q) (b+2000+2*q) v:=by
 have hx0:∀i,i<g.e.length->0<=x i:=λi hi=>(hx i hi).2.1
 obtain⟨p1,p2⟩:=h.gE hx0
 have heB:=YB
 have hall:∀v∈jR g.e.length (bC g) (mJ g x) x d,afw B (b+1000+2*q) (b+2000+2*q) v:=λv hv=>by
  rcases bA.mp hv with hv|hv
  .exact h.c_e hB0 h6 hb hx hdz jp v hv
  .obtain⟨D,hD,hv⟩:=cF.mp hv;rw[<-ce (l:=D.2)]at hv;exact h.c_p hB0 h6 hb hx hd hdz hD v hv
 refine⟨⟨h.mg hB0 h6 hb jb hx,λi hi=>⟨h.nn hi,hx0 i hi⟩,λi hi=>(hdz.rat hi).sz jb,λi hi _=>⟨ChS B b (bY (ix g.e i)),h.ch0 hB0 hb hx hi,λm hm=>ChS.ok h hi h6 hb2 hm,λm t hm ht=>hm.next h hi h6 ht⟩,λi hi hp y hy=>?_,λi hi=>?_,λj hj k hk=>?_,λj hj l hl=>?_⟩,hall⟩
 .obtain⟨z1,z2,z3⟩:=h.ny hB0 h6 hb hx hdz hi hp hy
  exact⟨z1.sz jb,z2.sz jb,z3.1.sz jb⟩
 .exact aj6 (λv hv=>(h.c_e hB0 h6 hb hx hdz hi v hv).1) jb
 .obtain⟨z1,z2,z3⟩:=h.c_d hB0 h6 hb hx hd hdz hj k
  refine⟨aj6 (r:=b+2000+2*q) (λv hv=>?_) jb,z1.sz jb,z2.sz jb,?_⟩
  .rcases bA.mp hv with hv|hv
   .rcases bA.mp hv with hv|hv
    .exact(h.c_e hB0 h6 hb hx hdz jp v hv).1
    .obtain⟨D,hD,hv⟩:=cF.mp hv
     rw[<-ce (l:=D.2)]at hv
     exact(h.c_p hB0 h6 hb hx hd hdz (eQ hD) v hv).1
   .exact(h.c_p hB0 h6 hb hx hd hdz (h.ds hj) (k:=k) v hv).1
  .by_cases e:aI ((dL g j).take k) (gr (bC g) x d)=0
   .grind[Sz.zero]
   .exact(z1.div z2 e).sz jb
 .obtain⟨-,-,w3⟩:=h.aaG (h.ds hj)
  have hle:=w3 l hl
  have hi:=(h.JH.fH l hle).1
  have s1:=qX (h.nn hi) (hx0 _ hi) l.2
  have s2:=U9 (h.ed l.1 hi).uq (h.eb l.1 hi) (hx0 _ hi) l.2
  obtain⟨q0,q1⟩:=h.aj2 hx0 hle
  have e1:((1000001:Nat):Rat)=1000001:=rfl
  have zs:lJ (eB+20) (xH (bY (ix g.e l.1)) (x l.1) l.2):=Vh (K:=1000001) p1 p2 (h.slD hx0 hi l.2) jj kd jb
  refine⟨?_,?_,?_⟩
  .have hBE:=cw hB0 p1
   exact(Gf hBE (oJ hb p2) ((aiz jj hB0 h6 (h.ed l.1 hi) (hx l.1 hi).1 (hx l.1 hi).2.1 l.2).dvd (cH _ (Pv x hi)) hBE) (by have:0<=rX (bY (ix g.e l.1)) (x l.1) l.2:=q0;grind) (by have:rX (bY (ix g.e l.1)) (x l.1) l.2<=2880:=q1;grind)).sz jb
  .unfold gs
   rw[ab rfl]
   exact zs.sz jb
  .exact(zs.mul (hdz.rat hi)).sz jb
end
end Go.Proofs.Xe
