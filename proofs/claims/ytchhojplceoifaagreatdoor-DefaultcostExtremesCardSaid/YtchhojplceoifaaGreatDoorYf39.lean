import Derived.Test.YtchhojplceoifaaGreatDoorYf38
set_option linter.all false
set_option maxRecDepth 100000
set_option maxHeartbeats 8000000
noncomputable section
namespace Go.Proofs.Xe
open Go.RowKit Go.Proofs.Ins
def Bz(l:List Rat):Option Rat:=l.foldl ZF none
def Ui(l:List Rat)(q:Rat):Bz (l++[q])=ZF (Bz l) q:=by grind[Bz]
def KE:∀(l:List Rat) (m:Rat),∃k,l.foldl ZF (some m)=some k/\(k=m\/k∈l)/\k<=m/\∀v∈l,k<=v
 |[],m=>⟨m,rfl,.inl rfl,aY,λv hv=>by cases hv⟩
 |a::l,m=>by
  rw[List.foldl_cons];by_cases h:a<m
  .rw[show ZF (some m) a=some a from ae h];obtain⟨k,h1,h2,h3,h4⟩:=KE l a;grind
  .rw[show ZF (some m) a=some m from ab h];obtain⟨k,h1,h2,h3,h4⟩:=KE l m;grind
def WE(l:List Rat):(l=[]/\Bz l=none)\/∃m,Bz l=some m/\m∈l/\∀v∈l,m<=v:=by
 cases l with
 |nil=>exact .inl ⟨rfl,rfl⟩
 |cons a l=>
  obtain⟨k,h1,h2,h3,h4⟩:=KE l a
  refine .inr ⟨k,h1,?_,λv hv=>?_⟩
  .grind
  grind
theorem Xc.uniq{e:fA}{n:Nat}{z x:Rat}{o o':Option Rat}(h:Xc e n z x o)(h':Xc e n z x o'):o=o':=by
 induction h with
 |no h=>cases h' with
  |no=>rfl
  |stop h2=>grind
  |go h2=>grind
 |stop h hs=>cases h' with
  |no h2=>grind
  |stop h2=>grind
  |go h2 hs2=>grind
 |go h hs _ ih=>cases h' with
  |no h2=>grind
  |stop h2 hs2=>grind
  |go h2 _ hr=>grind
open Classical in
def nxE(e:fA)(n:Nat)(x:Rat):Option Rat:=if h:∃o,Xc e n x x o then h.choose else none
def ala{e:fA}{n:Nat}{x:Rat}{o:Option Rat}(h:Xc e n x x o):nxE e n x=o:=by
 have h2:∃o,Xc e n x x o:=⟨o,h⟩
 grind[nxE,Xc.uniq]
def nO(g:fC)(x:Nat->Rat)(i:Nat):Option Rat:=(nxE (bY (ix g.e i)) (kE g.e i) (x i)).map λy=>y-x i
theorem Uj{W:Rat}{q r:fZ->Rat}:∀(t:List fZ) (a:fZ) (Q R:Rat),rJ W q r Q R (t++[a])=rJ W q r Q R t++(if Q+aJ t q+q a<W/\0<R+aJ t r+r a then [(W-(Q+aJ t q+q a))/(R+aJ t r+r a)]else [])
 |[],a,Q,R=>by show(if _ then _ else _)++[]=[]++_;simp_all[aJ,cY]
 |b::t,a,Q,R=>by show(if _ then _ else _)++rJ W q r _ _ (t++[a])=((if _ then _ else _)++rJ W q r _ _ t)++_;rw[Uj t a,ij];have e1:aJ (b::t) q=q b+aJ t q:=rfl;have e2:aJ (b::t) r=r b+aJ t r:=rfl;rw[e1,e2,iB Q,iB R]
def WG(g:fC)(x d:Nat->Rat)(j:Nat):List Rat:=Cm (nO g x) d g.e.length++((bI g).ds.take j).flatMap λd'=>rJ d'.1 (gq (bI g) x) (gr (bI g) x d) 0 0 d'.2
def Ey(g:fC)(x d:Nat->Rat)(j k:Nat):List Rat:=WG g x d j++rJ (dW g j) (gq (bI g) x) (gr (bI g) x d) 0 0 ((dL g j).take k)
def agG(g:fC)(x d:Nat->Rat)(j:Nat):Ey g x d j 0=WG g x d j:=by unfold Ey;rw[cI];exact dx _
def alb(g:fC)(x d:Nat->Rat){j:Nat}(h:j<g.d.length):Ey g x d j (dL g j).length=WG g x d (j+1):=by grind[Ey,WG,take_snoc,yQ,Qi]
def agH(g:fC)(x d:Nat->Rat){j k:Nat}(h:k<(dL g j).length):Ey g x d j (k+1)=Ey g x d j k++(if aJ ((dL g j).take (k+1)) (gq (bI g) x)<dW g j/\0<aJ ((dL g j).take (k+1)) (gr (bI g) x d)then [(dW g j-aJ ((dL g j).take (k+1)) (gq (bI g) x))/aJ ((dL g j).take (k+1)) (gr (bI g) x d)]else []):=by grind[Ey,take_snoc,Uj,nR]
structure NrN(D:Nat)(g:fC)(x d:Nat->Rat):Prop where
 m:Wq D g x
 nn:∀i,i<g.e.length->BQ (bY (ix g.e i))/\0<=x i
 dz:∀i,i<g.e.length->Sz (d i)
 nx:∀i,i<g.e.length->0<d i->∃S:Rat->Prop,S (x i)/\(∀m,S m->∃D,CY D/\EOk D (kE g.e i) (bY (ix g.e i))/\MOk D (bY (ix g.e i)) m/\ROk D (bY (ix g.e i)) m/\SOk (bY (ix g.e i)) m)/\∀m t,S m->Ja (bY (ix g.e i)) m=some t->S (m+t)
 ny:∀i,i<g.e.length->0<d i->∀y,nxE (bY (ix g.e i)) (kE g.e i) (x i)=some y->Sz y/\Sz (y-x i)/\Sz ((y-x i)/d i)
 c1:∀i,i<=g.e.length->Sz (gq0 (Bz (Cm (nO g x) d i)))
 c2:∀j,j<g.d.length->∀k,k<=(dL g j).length->Sz (gq0 (Bz (Ey g x d j k)))/\Sz (dW g j-aJ ((dL g j).take k) (gq (bI g) x))/\Sz (aJ ((dL g j).take k) (gr (bI g) x d))
  /\Sz ((dW g j-aJ ((dL g j).take k) (gq (bI g) x))/aJ ((dL g j).take k) (gr (bI g) x d))
 c3:∀j,j<g.d.length->∀l∈dL g j,Sz (gq (bI g) x l)/\Sz (gs (bI g) x l.1 l)/\Sz (gr (bI g) x d l)
def Uk{σ:St}(hW:WF σ){sb:Nat}{g:fC}{x d:Nat->Rat}(hs:FV (Lt σ.aj) σ.h sb g){p:Nat->Prop}{xv dvv Dv Sv:B}(hx:kJ p σ.h xv g.e.length x)(hd:kJ p σ.h dvv g.e.length d)(hDv:dQ p σ.h Dv g.e.length (kE g.e) (Ns g x))(hSv:dQ p σ.h Sv g.e.length (kE g.e) (LX g x)){D:Nat}(hN:NrN D g x d):
  aC EN 100 [.c (.ptr sb 0),.c xv,.c dvv,.agg [Dv,Sv]] σ λr σ'=>r=.aZ (.agg [.bool (rn (gq0 (Bz (kK g.e.length (bI g) (nO g x) x d)))),.str (rs (gq0 (Bz (kK g.e.length (bI g) (nO g x) x d)))),.str (rd (gq0 (Bz (kK g.e.length (bI g) (nO g x) x d))))]) (.aZ (.c (.bool (Bz (kK g.e.length (bI g) (nO g x) x d)).isSome)) .tnil)/\Fr σ σ':=by
 refine aO (jT.o _ _) jT.h ?_
 unfold jT
 dsimp only
 have hs':=hs
 obtain⟨⟨ev,gv,lv,bv,hsb,hg,⟨R,P,hL1,hL2⟩,hB⟩,hsl⟩:=hs
 have hSN:=hN.m.A.s
 have hn:=hSN.n
 have hnd:=hSN.d
 have hD:=hSN.hD
 have hlk:=hL1.kn
 have hll:=hL1.len
 have hlD:=hg.d.len
 have hdk:=hg.d.kn
 have k1:=hDv.kn
 have k2:=hSv.kn
 have hsl:sb<σ.aj:=hsl
 have hFr:=Fr.refl hW
 simp(disch:=try exact jz) only[go_sem,k1,k2,au hsb,hll,hlk]
 refine bM.mono (Q:=λex tm σ'=>ex=.exit 0/\Tr.ah tm 0=.c (.ptr sb 0)/\Tr.ah tm 2=.c dvv/\Tr.ah tm 7=.c (.ptr σ.aj 0)/\Tr.ah tm 8=.c (.ptr (σ.aj+1) 0)/\Tr.ah tm 10=.c (.ptr (σ.aj+1+1) 0)/\Tr.ah tm 11=.c (.ptr (σ.aj+1+1+1) 0)/\Tr.ah tm 12=.fn 156 [.ptr (σ.aj+1+1+1) 0,.ptr (σ.aj+1+1) 0]
   /\σ'.h σ.aj=some ⟨[Dv,Sv],none⟩/\σ'.h (σ.aj+1)=some ⟨[.bool (rn 0),.str (rs 0),.str (rd 0)],none⟩/\RZ σ'.h (σ.aj+1+1+1) (σ.aj+1+1) (Bz (Cm (nO g x) d g.e.length))/\Fr σ σ'/\σ.aj+1+1+1+1<=σ'.aj)
  (aF (λq tm σ'=>∃i,q=g.e.length-i/\i<=g.e.length/\Tr.ah tm 0=.c (.ptr sb 0)/\Tr.ah tm 1=.c xv/\Tr.ah tm 2=.c dvv/\Tr.ah tm 7=.c (.ptr σ.aj 0)/\Tr.ah tm 8=.c (.ptr (σ.aj+1) 0)/\Tr.ah tm 10=.c (.ptr (σ.aj+1+1) 0)/\Tr.ah tm 11=.c (.ptr (σ.aj+1+1+1) 0)/\Tr.ah tm 12=.fn 156 [.ptr (σ.aj+1+1+1) 0,.ptr (σ.aj+1+1) 0]
   /\Tr.ah tm 27=.c lv/\Tr.ah tm 28=jN g.e.length/\Tr.ah tm 29=jN i/\σ'.h σ.aj=some ⟨[Dv,Sv],none⟩/\σ'.h (σ.aj+1)=some ⟨[.bool (rn 0),.str (rs 0),.str (rd 0)],none⟩/\RZ σ'.h (σ.aj+1+1+1) (σ.aj+1+1) (Bz (Cm (nO g x) d i))/\Fr σ σ'/\σ.aj+1+1+1+1<=σ'.aj) g.e.length ?_ ?_) ?_
 .refine⟨0,jb,jb,?_⟩
  simp(disch:=try exact jz) only[go_sem,am]
  refine⟨⟨aA _ _ _,?_⟩,fr,jb⟩
  rw[ak _ _ _ _ jb,ak _ _ _ _ jb,aA]
  rfl
 .rintro q tm σ' ⟨i,rfl,hi,t0,t1,t2,t7,t8,t10,t11,t12,t27,t28,t29,q7,q8,hO,hf,hnx⟩
  have hle:=hf.le
  have mJ:=Fr.refl hf.wf
  simp(disch:=try exact jz) only[go_sem,t0,t1,t2,t7,t8,t10,t11,t12,t27,t28,t29,aG]
  refine aH (λhlt=>?_) (λhlt=>?_)
  .obtain⟨b5,o5,c5,rfl,-,bf⟩:=hL1.pos jb
   have hLi:=hL2 i hlt
   have hRk:=hLi.rk.kn
   have hPk:=hLi.Xd
   obtain⟨he1,he2,-,-⟩:=hSN.e i hlt
   have bf:=hf.ld hW (bf i hlt)
   obtain⟨b6,o6,c6,e6,-,bJ⟩:=aX.at3 hd hlt
   obtain⟨b7,o7,c7,e7,-,dB⟩:=aX.at3 hx hlt
   have aBz:=hW.dA bJ
   have ax4:=hW.dA dB
   have bJ:=hf.ld hW bJ
   have dB:=hf.ld hW dB
   have a6:V.c (.sl b6 o6 g.e.length c6)=V.c dvv:=by rw[e6]
   have a7:V.c (.sl b7 o7 g.e.length c7)=V.c xv:=by rw[e7]
   rw[e6]at t2
   rw[e7]at t1
   have hb6:=hf.wf.dA bJ
   have hb7:=hf.wf.dA dB
   have hb5:=hf.wf.dA bf
   have z1:=hN.dz i hlt
   unfold jI at bf
   by_cases hp:0<d i
   .have hl7:=hf.wf.lt q7
    obtain⟨S,s1,s2,s3⟩:=hN.nx i hlt hp
    obtain⟨n1,n2⟩:=hN.nn i hlt
    have hzO:=hN.c1 i hi
    obtain⟨Dx,-,-,zx,-,-⟩:=s2 _ s1
    have zx:=zx.hm
    simp(disch:=try exact jz) only[go_sem,t0,t1,t2,t7,t8,t10,t11,t12,t27,t28,t29,bf,bJ,dB,hRk,hPk,hp]
    refine aC.st (Fr σ') (fr) λgy=>?_
    have hf5:=hf.trans gy
    refine(atN gy.wf _ (bY (ix g.e i)) ((hLi.keep (λb hb=>hf5.old b hb) λ_ h=>h).lay) (x i) n1 n2 S s1 s2 s3).mono ?_
    rintro _ σ6 ⟨⟨o,ho,rfl⟩,gV⟩
    have kL:=gy.trans gV
    have abO:=hf.trans kL
    have yZ:σ'.aj+1+1<=σ6.aj:=gV.le
    have hy6:σ6.h (σ'.aj+1)=some ⟨[.bool (rn 0),.str (rs 0),.str (rd 0)],none⟩:=gV.get gy.wf (aA _ _ _)
    have q76:=kL.get hf.wf q7
    have q86:=kL.get hf.wf q8
    have hO6:RZ σ6.h (σ.aj+1+1+1) (σ.aj+1+1) (Bz (Cm (nO g x) d i)):=⟨kL.get hf.wf hO.f,kL.get hf.wf hO.o⟩
    have ax5:=kL.ld hf.wf bJ
    have ax6:=kL.ld hf.wf dB
    have hno:=ala ho
    cases o with
    |none=>
     have hds:nO g x i=none:=by unfold nO;rw[hno];rfl
     have hcn:Cm (nO g x) d (i+1)=Cm (nO g x) d i:=by show _++_=_;rw[ae hp,hds,dx]
     unfold atM
     simp(disch:=try exact jz) only[go_sem,t0,t1,t2,t7,t8,t10,t11,t12,t27,t28,t29,au hy6,hy6,aI hy6]
     have hW6:=gV.wf
     refine⟨g.e.length-(i+1),jb,i+1,rfl,jb,a7,a6,rfl,q76,q86,?_,fr,jb⟩
     rw[hcn]
     exact⟨(ak _ _ _ _ jb).trans hO6.f,(ak _ _ _ _ jb).trans hO6.o⟩
    |some y=>
     have hds:nO g x i=some (y-x i):=by unfold nO;rw[hno];rfl
     have hcn:Cm (nO g x) d (i+1)=Cm (nO g x) d i++[(y-x i)/d i]:=by show _++_=_;rw[ae hp,hds]
     obtain⟨y1,y2,y3⟩:=hN.ny i hlt hp y hno
     unfold atM
     simp(disch:=try exact jz) only[go_sem,t0,t1,t2,t7,t8,t10,t11,t12,t27,t28,t29,au hy6,hy6,aI hy6,ax5,ax6]
     refine aC.st (Fr σ') (by have hW6:=gV.wf;exact fr) λum=>?_
     have hO7:RZ (hset σ6.h (σ'.aj+1) ⟨[.bool (rn y),.str (rs y),.str (rd y)],none⟩) (σ.aj+1+1+1) (σ.aj+1+1) (Bz (Cm (nO g x) d i)):=⟨(ak _ _ _ _ jb).trans hO6.f,(ak _ _ _ _ jb).trans hO6.o⟩
     refine(ak9 um.wf hO7 jb y2 z1 hp y3 hzO).mono ?_
     rintro v8 σ8 ⟨hO8,oZ⟩
     rw[<-Ui,<-hcn]at hO8
     have agt:σ6.aj<=σ8.aj:=oZ.le
     have Na:=aU.to (hf.trans um) oZ λb hb=>by simp at hb;omega
     have ax7:=oZ.ld um.wf (by simp<;>omega) (um.ld hf.wf bJ)
     have q78:=oZ.get um.wf (by simp<;>omega) (um.get hf.wf q7)
     have q88:=oZ.get um.wf (by simp<;>omega) (um.get hf.wf q8)
     simp(disch:=try exact jz) only[go_sem,t0,t1,t2,t7,t8,t10,t11,t12,t27,t28,t29,ax7]
     exact⟨g.e.length-(i+1),jb,i+1,rfl,jb,a7,a6,rfl,q78,q88,hO8,Na,jb⟩
   .have hcn:Cm (nO g x) d (i+1)=Cm (nO g x) d i:=by show _++_=_;rw[ab hp,dx]
    simp(disch:=try exact jz) only[go_sem,t0,t1,t2,t7,t8,t10,t11,t12,t27,t28,t29,bf,bJ,hRk,hPk,hp]
    refine⟨g.e.length-(i+1),jb,i+1,rfl,jb,a7,a6,rfl,q7,q8,?_,fr,jb⟩
    rw[hcn]
    have hl7:=hf.wf.lt q7
    refine⟨?_,?_⟩
    .repeat rw[ak _ _ _ _ jb]
     exact hO.f
    .repeat rw[ak _ _ _ _ jb]
     exact hO.o
  .have:i=g.e.length:=jb
   subst this
   simp(disch:=try exact jz) only[go_sem,am]
   exact⟨t0,t2,t7,t8,t10,t11,t12,q7,q8,hO,hf,hnx⟩
 rintro _ tm σ3 ⟨rfl,t0,t2,t7,t8,t10,t11,t12,q7,q8,hO,hf3,hn3⟩
 have hle3:=hf3.le
 have ako:=hf3.get hW hsb
 have hcz:Cm (nO g x) d g.e.length=WG g x d 0:=by unfold WG;rw[cI];exact(dx _).symm
 rw[hcz]at hO
 simp(disch:=try exact jz) only[go_sem,t0,t2,t7,t8,t10,t11,t12,au ako,hlD,hdk]
 refine aF (λq tm σ'=>∃j,q=g.d.length-j/\j<=g.d.length/\Tr.ah tm 2=.c dvv/\Tr.ah tm 7=.c (.ptr σ.aj 0)/\Tr.ah tm 8=.c (.ptr (σ.aj+1) 0)/\Tr.ah tm 10=.c (.ptr (σ.aj+1+1) 0)/\Tr.ah tm 11=.c (.ptr (σ.aj+1+1+1) 0)/\Tr.ah tm 12=.fn 156 [.ptr (σ.aj+1+1+1) 0,.ptr (σ.aj+1+1) 0]
   /\Tr.ah tm 67=.c gv/\Tr.ah tm 68=jN g.d.length/\Tr.ah tm 69=jN j
   /\σ'.h σ.aj=some ⟨[Dv,Sv],none⟩/\σ'.h (σ.aj+1)=some ⟨[.bool (rn 0),.str (rs 0),.str (rd 0)],none⟩/\RZ σ'.h (σ.aj+1+1+1) (σ.aj+1+1) (Bz (WG g x d j))/\Fr σ σ'/\σ.aj+1+1+1+1<=σ'.aj) g.d.length ?_ ?_
 .refine⟨0,jb,jb,?_⟩
  simp(disch:=try exact jz) only[go_sem,t2,t7,t8,t10,t11,t12,am]
  exact⟨q7,q8,hO,hf3,hn3⟩
 .rintro q tm σ' ⟨j,rfl,hj,t2,t7,t8,t10,t11,t12,t67,t68,t69,q7,q8,hO,hf,hnx⟩
  have hle:=hf.le
  simp(disch:=try exact jz) only[go_sem,t2,t7,t8,t10,t11,t12,t67,t68,t69,aG]
  refine aH (λhlt=>?_) (λhlt=>?_)
  .obtain⟨b5,o5,c5,rfl,L1,bf,hL⟩:=hg.d.el hlt
   have bf:=hf.ld hW bf
   have hLk:=aX.kn hL
   have hlL:=aX.len hL
   obtain⟨hlen,Jj⟩:=hSN.l j hlt
   obtain⟨hwf,hw0,hwz⟩:=hSN.w j hlt
   have mJ:=Fr.refl hf.wf
   have hw2:=qE hwf
   have hmx:vY (rq (ix g.d j).w.n (ix g.d j).w.s (ix g.d j).w.d) 0=dW g j:=by rw[Qe];exact Ku hw0
   generalize hm:(ix g.d j).l.length=m at*
   have hdl:(dL g j).length=m:=(Ky g j).trans hm
   have akN:lenV (.c L1)=some (jN m):=hlL
   have hl7:=hf.wf.lt q7
   have hl8:=hf.wf.lt q8
   have hlf:=hf.wf.lt hO.f
   have hlo:=hf.wf.lt hO.o
   simp(disch:=try exact jz) only[go_sem,t2,t7,t8,t10,t11,t12,t67,t68,t69,bf,hLk,akN,hmx]
   refine bM.st (Fr σ') (fr) λgy=>?_
   have hf5:=hf.trans gy
   have uU:=gy.le
   refine bM.mono (Q:=λex tm σ4=>ex=.exit 4/\Tr.ah tm 2=.c dvv/\Tr.ah tm 7=.c (.ptr σ.aj 0)/\Tr.ah tm 8=.c (.ptr (σ.aj+1) 0)/\Tr.ah tm 10=.c (.ptr (σ.aj+1+1) 0)/\Tr.ah tm 11=.c (.ptr (σ.aj+1+1+1) 0)/\Tr.ah tm 12=.fn 156 [.ptr (σ.aj+1+1+1) 0,.ptr (σ.aj+1+1) 0]
    /\Tr.ah tm 67=.c (.sl b5 o5 g.d.length c5)/\Tr.ah tm 68=jN g.d.length/\Tr.ah tm 69=jN j/\σ4.h σ.aj=some ⟨[Dv,Sv],none⟩/\σ4.h (σ.aj+1)=some ⟨[.bool (rn 0),.str (rs 0),.str (rd 0)],none⟩/\RZ σ4.h (σ.aj+1+1+1) (σ.aj+1+1) (Bz (Ey g x d j m))/\Fr σ σ4/\σ.aj+1+1+1+1<=σ4.aj)
    (aF (λq tm σ4=>∃k,q=m-k/\k<=m/\Tr.ah tm 2=.c dvv/\Tr.ah tm 7=.c (.ptr σ.aj 0)/\Tr.ah tm 8=.c (.ptr (σ.aj+1) 0)/\Tr.ah tm 10=.c (.ptr (σ.aj+1+1) 0)/\Tr.ah tm 11=.c (.ptr (σ.aj+1+1+1) 0)/\Tr.ah tm 12=.fn 156 [.ptr (σ.aj+1+1+1) 0,.ptr (σ.aj+1+1) 0]
     /\Tr.ah tm 19=.c (.ptr (σ'.aj+1) 0)/\Tr.ah tm 20=.c (.ptr (σ'.aj+1+1) 0)/\Tr.ah tm 67=.c (.sl b5 o5 g.d.length c5)/\Tr.ah tm 68=jN g.d.length/\Tr.ah tm 69=jN j/\Tr.ah tm 79=.c L1/\Tr.ah tm 80=jN m/\Tr.ah tm 81=jN k
     /\σ4.h σ.aj=some ⟨[Dv,Sv],none⟩/\σ4.h (σ.aj+1)=some ⟨[.bool (rn 0),.str (rs 0),.str (rd 0)],none⟩/\σ4.h (σ'.aj+1)=some ⟨[.bool (rn (dW g j-aJ ((dL g j).take k) (gq (bI g) x))),.str (rs (dW g j-aJ ((dL g j).take k) (gq (bI g) x))),.str (rd (dW g j-aJ ((dL g j).take k) (gq (bI g) x)))],none⟩
     /\σ4.h (σ'.aj+1+1)=some ⟨[.bool (rn (aJ ((dL g j).take k) (gr (bI g) x d))),.str (rs (aJ ((dL g j).take k) (gr (bI g) x d))),.str (rd (aJ ((dL g j).take k) (gr (bI g) x d)))],none⟩/\RZ σ4.h (σ.aj+1+1+1) (σ.aj+1+1) (Bz (Ey g x d j k))/\Fr σ σ4/\σ'.aj+1+1+1<=σ4.aj) m ?_ ?_) ?_
   .refine⟨0,jb,jb,?_⟩
    simp(disch:=try exact jz) only[go_sem,t2,t7,t8,t10,t11,t12,t67,t68,t69,am,cI]
    have e1:dW g j-aJ ([]:List fZ) (gq (bI g) x)=dW g j:=by show dW g j-0=dW g j;grind
    rw[e1,agG]
    refine⟨q7,q8,rfl,rfl,⟨?_,?_⟩,hf5,jb⟩
    .repeat rw[ak _ _ _ _ jb]
     exact hO.f
    .repeat rw[ak _ _ _ _ jb]
     exact hO.o
   .rintro q XB σ4 ⟨k,rfl,hk,t2,t7,t8,t10,t11,t12,t19,t20,t67,t68,t69,t79,t80,Bl,q7,q8,q19,q20,hO,hf4,hn4⟩
    simp(disch:=try exact jz) only[go_sem,t2,t7,t8,t10,t11,t12,t19,t20,t67,t68,t69,t79,t80,Bl,aG]
    refine aH (λhltk=>?_) (λhltk=>?_)
    .obtain⟨b8,o8,c8,e8,-,oQ⟩:=aX.pos hL (show 0<(ix g.d j).l.length by omega)
     have oQ:=hf4.ld hW (oQ k jb)
     rw[hm]at e8
     rw[e8]at t79
     have a8:V.c (.sl b8 o8 m c8)=V.c L1:=by rw[e8]
     obtain⟨e,c,FU,he,hc⟩:=Jj k hltk
     unfold MH at oQ
     rw[FU]at oQ
     have hlk2:k<(dL g j).length:=jb
     have hix:ix (dL g j) k=(e,c):=by rw[akw (by omega:k<(ix g.d j).l.length),FU];rfl
     have hmem:(e,c)∈dL g j:=by rw[<-hix];exact gJ hlk2
     obtain⟨b9,o9,c9,T,eD,-,Qm,hT⟩:=hDv.at he
     obtain⟨ba,oa,ca,rfl,-,agI⟩:=aX.at3 hT hc
     obtain⟨bb,ob,cb,T2,eS,-,ZE,hT2⟩:=hSv.at he
     obtain⟨bc,oc,cc,rfl,-,agJ⟩:=aX.at3 hT2 hc
     obtain⟨bd,od,cd,e6,-,agK⟩:=aX.at3 hd he
     have aBA:=hW.dA Qm
     have aBB:=hW.dA agI
     have aBC:=hW.dA ZE
     have aBD:=hW.dA agJ
     have hbd0:=hW.dA agK
     have pY:=hf4.le
     have Qm:=hf4.ld hW Qm
     have agI:=hf4.ld hW agI
     have ZE:=hf4.ld hW ZE
     have agJ:=hf4.ld hW agJ
     have agK:=hf4.ld hW agK
     rw[eD,eS]at q7
     rw[e6]at t2
     have a6:V.c (.sl bd od g.e.length cd)=V.c dvv:=by rw[e6]
     obtain⟨w1,w2,w3,-⟩:=hN.c2 j hlt k jb
     obtain⟨v1,v2,v3,v4⟩:=hN.c2 j hlt (k+1) jb
     obtain⟨u1,u2,u3⟩:=hN.c3 j hlt _ hmem
     have u1:Sz (Ns g x e c):=u1
     have u2:Sz (LX g x e c):=by have:gs (bI g) x (e,c).1 (e,c)=LX g x e c:=ae rfl;rw[<-this];exact u2
     have u3:Sz (LX g x e c*d e):=u3
     have u4:=hN.dz e he
     have s1:dW g j-aJ ((dL g j).take k) (gq (bI g) x)-Ns g x e c=dW g j-aJ ((dL g j).take (k+1)) (gq (bI g) x):=by rw[take_snoc hlk2,nR,hix];show _-Ns g x e c=_-(_+Ns g x e c);grind
     have s2:aJ ((dL g j).take k) (gr (bI g) x d)+LX g x e c*d e=aJ ((dL g j).take (k+1)) (gr (bI g) x d):=by rw[take_snoc hlk2,nR,hix];rfl
     have hsc:=agH g x d hlk2
     have FQ:=Fr.refl hf4.wf
     generalize hA:dW g j-aJ ((dL g j).take (k+1)) (gq (bI g) x)=A at*
     generalize hB:aJ ((dL g j).take (k+1)) (gr (bI g) x d)=Bq at*
     have zA:=v2
     have zB:=v3
     rw[<-s1]at v2
     rw[<-s2]at v3
     have g7:∀b,b≠σ4.aj->b≠σ'.aj+1->b≠σ'.aj+1+1->(hset (hset (hset (hset σ4.h σ4.aj ⟨[.int .i64 (.ofNat 0),.int .i64 (.ofNat 0)],none⟩) σ4.aj ⟨[.int .i64 (.ofNat e),.int .i64 (.ofNat c)],none⟩) (σ'.aj+1) ⟨[.bool (rn A),.str (rs A),.str (rd A)],none⟩) (σ'.aj+1+1) ⟨[.bool (rn Bq),.str (rs Bq),.str (rd Bq)],none⟩) b=σ4.h b:=λb k1 k2 k3=>by rw[ak _ _ _ _ k3,ak _ _ _ _ k2,ak _ _ _ _ k1,ak _ _ _ _ k1]
     have hO7:RZ (hset (hset (hset (hset σ4.h σ4.aj ⟨[.int .i64 (.ofNat 0),.int .i64 (.ofNat 0)],none⟩) σ4.aj ⟨[.int .i64 (.ofNat e),.int .i64 (.ofNat c)],none⟩) (σ'.aj+1) ⟨[.bool (rn A),.str (rs A),.str (rd A)],none⟩) (σ'.aj+1+1) ⟨[.bool (rn Bq),.str (rs Bq),.str (rd Bq)],none⟩) (σ.aj+1+1+1) (σ.aj+1+1) (Bz (Ey g x d j k)):=⟨(g7 _ jb jb jb).trans hO.f,(g7 _ jb jb jb).trans hO.o⟩
     by_cases h1:0<A
     .by_cases h2:0<Bq
      .simp(disch:=try exact jz) only[go_sem,t2,t7,t8,t10,t11,t12,t19,t20,t67,t68,t69,t79,t80,Bl,oQ,Qm,agI,ZE,agJ,agK,au q7,au q19,q19,aI q19,au q20,q20,aI q20,s1,s2,h1,h2]
       refine aC.st (Fr σ) (fr) λum=>?_
       refine(ak9 um.wf hO7 jb zA zB h2 v4 w1).mono ?_
       rintro v8 σ8 ⟨hO8,oZ⟩
       have hcn:Ey g x d j (k+1)=Ey g x d j k++[A/Bq]:=by rw[hsc,ae ⟨by grind,h2⟩]
       rw[<-Ui,<-hcn]at hO8
       have agt:σ4.aj+1<=σ8.aj:=oZ.le
       have Na:=aU.to um oZ λb hb=>by simp at hb;omega
       have q78:=oZ.get um.wf (by simp<;>omega) ((g7 _ jb jb jb).trans q7)
       have q88:=oZ.get um.wf (by simp<;>omega) ((g7 _ jb jb jb).trans q8)
       have aAi:=oZ.get um.wf (by simp<;>omega) ((ak _ _ _ _ (show σ'.aj+1≠σ'.aj+1+1 by omega)).trans (aA _ _ _))
       have apa:=oZ.get um.wf (by simp<;>omega) (aA _ _ _)
       simp(disch:=try exact jz) only[go_sem,t2,t7,t8,t10,t11,t12,t19,t20,t67,t68,t69,t79,t80,Bl]
       refine⟨m-(k+1),jb,k+1,rfl,jb,a6,a8,rfl,?_,q88,?_,?_,?_,Na,jb⟩
       .rw[eD,eS];exact q78
       .rw[hA];exact aAi
       .rw[hB];exact apa
       .exact hO8
      .simp(disch:=try exact jz) only[go_sem,t2,t7,t8,t10,t11,t12,t19,t20,t67,t68,t69,t79,t80,Bl,oQ,Qm,agI,ZE,agJ,agK,au q7,au q19,q19,aI q19,au q20,q20,aI q20,s1,s2,h1,h2]
       have hcn:Ey g x d j (k+1)=Ey g x d j k:=by rw[hsc,ab λh=>h2 h.2,dx]
       refine⟨m-(k+1),jb,k+1,rfl,jb,a6,a8,rfl,?_,q8,?_,?_,?_,fr,jb⟩
       .rw[eD,eS];exact q7
       .rw[hA]
       .rw[hB]
       .rw[hcn];exact hO7
     .simp(disch:=try exact jz) only[go_sem,t2,t7,t8,t10,t11,t12,t19,t20,t67,t68,t69,t79,t80,Bl,oQ,Qm,agI,ZE,agJ,agK,au q7,au q19,q19,aI q19,au q20,q20,aI q20,s1,s2,h1]
      have hcn:Ey g x d j (k+1)=Ey g x d j k:=by rw[hsc,ab λh=>h1 kd,dx]
      refine⟨m-(k+1),jb,k+1,rfl,jb,a6,a8,rfl,?_,q8,?_,?_,?_,fr,jb⟩
      .rw[eD,eS];exact q7
      .rw[hA]
      .rw[hB]
      .rw[hcn];exact hO7
    .have:k=m:=jb
     subst this
     simp(disch:=try exact jz) only[go_sem,am]
     exact⟨t2,t7,t8,t10,t11,t12,t67,t68,t69,q7,q8,hO,hf4,jb⟩
   .rintro _ tm σ4 ⟨rfl,t2,t7,t8,t10,t11,t12,t67,t68,t69,q7,q8,hO,hf4,hn4⟩
    rw[<-hdl,alb g x d hlt]at hO
    simp(disch:=try exact jz) only[go_sem,t2,t7,t8,t10,t11,t12,t67,t68,t69]
    exact⟨g.d.length-(j+1),jb,j+1,rfl,jb,rfl,q7,q8,hO,hf4,hn4⟩
  .have:j=g.d.length:=jb
   subst this
   have hcs:WG g x d g.d.length=kK g.e.length (bI g) (nO g x) x d:=by unfold WG kK;rw[eO (by rw[yQ];exact jp)]
   rw[hcs]at hO
   have o1:=hO.f
   have o2:=hO.o
   simp(disch:=try exact jz) only[go_sem,t8,t10,t11,au o1,au o2,o1,o2,aI q8,q8]
   exact fr
def auz(g:fC)(i:Nat):Bool:=decide (0<(ix g.e i).m.q)
def alc{σ:St}(hW:WF σ){sb:Nat}{g:fC}(hs:FV (Lt σ.aj) σ.h sb g)(hn:g.e.length<=1000)(hm:∀i,i<g.e.length->(ix g.e i).m.fits 1000000):
  aC EN 95 [.c (.ptr sb 0)] σ λr σ'=>(∃b,r=.c (.sl b 0 g.e.length (.ex g.e.length))/\σ'.h b=some ⟨Zz g.e.length (auz g),none⟩/\σ.aj<=b/\b<σ'.aj)/\Fr σ σ':=by
 refine aO (kY.o _ _) kY.h ?_
 unfold kY
 dsimp only
 obtain⟨⟨ev,gv,lv,bv,hsb,hg,⟨R,P,hL1,hL2⟩,hB⟩,hsl⟩:=hs
 have hlk:=hL1.kn
 have hll:=hL1.len
 have hlE:=hg.e.len
 have hek:=hg.e.kn
 have hsl:sb<σ.aj:=hsl
 have hFr:=Fr.refl hW
 simp(disch:=try exact jz) only[go_sem,au hsb,hll,hlk,hlE,hek]
 refine aF (λq tm σ'=>∃i,q=g.e.length-i/\i<=g.e.length/\Tr.ah tm 3=.c (.sl σ.aj 0 g.e.length (.ex g.e.length))/\Tr.ah tm 16=.c ev/\Tr.ah tm 17=jN g.e.length/\Tr.ah tm 18=jN i
   /\σ'.h σ.aj=some ⟨ones g.e.length (λk=>.bool (if k<i then auz g k else false)),none⟩/\Fr σ σ'/\σ.aj+1<=σ'.aj) g.e.length ?_ ?_
 .refine⟨0,jb,jb,?_⟩
  simp(disch:=try exact jz) only[go_sem,am]
  exact⟨bO (λl=>some (Bk.mk l none)) (cO λk _=>by rfl),fr,jb⟩
 .rintro q tm σ' ⟨i,rfl,hi,t3,t16,t17,nP,q3,hf,hnx⟩
  have hle:=hf.le
  have mJ:=Fr.refl hf.wf
  simp(disch:=try exact jz) only[go_sem,t3,t16,t17,nP,aG]
  refine aH (λhlt=>?_) (λhlt=>?_)
  .obtain⟨b5,o5,c5,rfl,C1,A1,bf,-,hC,hA1⟩:=hg.e.at hlt
   have bf:=hf.ld hW bf
   have LM:=aX.kn hC
   have hAk:=hA1.kn
   have hw:=qE (hm i hlt)
   simp(disch:=try exact jz) only[go_sem,t3,t16,t17,nP,bf,LM,hAk,q3,aI q3]
   refine⟨g.e.length-(i+1),jb,i+1,rfl,jb,rfl,bO (λl=>some (Bk.mk l none)) (cO λk hk=>?_),fr,jb⟩
   unfold aN
   by_cases e:k=i
   .rw[ae e,ae jb,e];rfl
   grind
  .have:i=g.e.length:=jb
   subst this
   simp(disch:=try exact jz) only[go_sem,t3]
   refine⟨⟨_,rfl,?_,jb,jb⟩,hf⟩
   rw[q3]
   exact bO (λl=>some (Bk.mk l none)) (cO λk hk=>by grind)
def agL(q:Rat):decide (rs q=⟨#[]⟩)=decide (q=0):=by
 by_cases h:q=0
 .rw[be h];exact be (jY.mpr h)
 .rw[az h];exact az λe=>h (jY.mp e)
def apb{σ:St}(hW:WF σ){p:Nat->Prop}{v:B}{n m:Nat}{A:Nat->Nat->Rat}(hA:dQ p σ.h v n (λ_=>m) A)(hn:n<=1000){f c:Nat}(hf:f<=n)(hc:c<m):
  aC EN 239 [.c v,jN f,jN c] σ λr σ'=>r=.c (.int .i64 (if f+vX A c f (n-f)<n then .ofNat (f+vX A c f (n-f))else .negSucc 0))/\Fr σ σ':=by
 refine aO (yF.o _ _) yF.h ?_
 unfold yF
 dsimp only
 have hlen:=hA.len
 have hz:=λ(args:List V) (σ:St) (K:V->St->Prop)=>lS (E:=EN) (K:=K) (gU.o args σ) gU.h
 unfold gU at hz
 dsimp only at hz
 simp(disch:=try exact jz) only[go_sem,hlen]
 refine aF (λq tm σ'=>∃i,q=n-i/\f<=i/\i<=n/\Tr.ah tm 0=.c v/\Tr.ah tm 2=jN c/\Tr.ah tm 7=jN i/\f+vX A c f (n-f)=i+vX A c i (n-i)/\Fr σ σ') (n-f) ?_ ?_
 .refine⟨f,rfl,jp,hf,?_⟩
  simp(disch:=try exact jz) only[go_sem,am]
  exact Fr.refl hW
 .rintro q tm σ' ⟨i,rfl,hi1,hi,t0,t2,t7,hfs,hf'⟩
  have hFr:=Fr.refl hf'.wf
  simp(disch:=try exact jz) only[go_sem,t0,t2,t7,hlen,aG]
  refine aH (λhlt=>?_) (λhlt=>?_)
  .obtain⟨b6,o6,c6,T,rfl,-,bJ,hT⟩:=hA.at hlt
   obtain⟨b7,o7,c7,rfl,-,dB⟩:=aX.at3 hT hc
   have bJ:=hf'.ld hW bJ
   have dB:=hf'.ld hW dB
   have hs:n-i=(n-(i+1))+1:=jb
   have hst:vX A c i (n-i)=if A i c=0 then vX A c (i+1) (n-(i+1))+1 else 0:=by grind[vX]
   by_cases h0:A i c=0
   .simp(disch:=try exact jz) only[go_sem,t0,t2,t7,bJ,dB,hz,agL,h0,gn]
    rw[ae h0]at hst
    exact⟨n-(i+1),jb,i+1,rfl,jb,jb,rfl,jb,fr⟩
   .simp(disch:=try exact jz) only[go_sem,t0,t2,t7,bJ,dB,hz,agL,h0,decide_false]
    rw[ab h0]at hst
    rw[ae jb]
    exact⟨by grind,fr⟩
  .have:i=n:=jb
   subst this
   have:vX A c i (i-i)=0:=by rw[Nat.sub_self];rfl
   simp(disch:=try exact jz) only[go_sem,t0]
   grind
def minS(a b:Nat->Rat)(f:Rat)(j k:Nat):Rat:=if k<j then a k-f*b k else a k
def apc{σ:St}(hW:WF σ){p:Nat->Prop}{ba m:Nat}{ca:Cap}{o:Option (Nat×Nat)}{a b:Nat->Rat}{bv:B}{f:Rat}(h1:σ.h ba=some ⟨cZ m a,o⟩)(hpl:plo o=true)(hrd:Z9 o=true)(hb:kJ p σ.h bv m b)(hp:∀x,p x->x≠ba)(hm:m<=1000)
  (z0:Sz f) (za:∀k,k<m->Sz (a k)) (zb:∀k,k<m->Sz (b k)) (zm:∀k,k<m->Sz (f*b k)) (zs:∀k,k<m->Sz (a k-f*b k)):
  aC EN 241 [.c (.sl ba 0 m ca),.c bv,.agg [.bool (rn f),.str (rs f),.str (rd f)]] σ λ_ σ'=>σ'.h ba=some ⟨cZ m λk=>a k-f*b k,o⟩/\aU [ba] σ σ':=by
 refine aO (yG.o _ _) yG.h ?_
 unfold yG
 dsimp only
 have hba:=hW.lt h1
 have hFr:=aU.refl (ex:=[ba]) hW
 have hz:=λ(args:List V) (σ:St) (K:V->St->Prop)=>lS (E:=EN) (K:=K) (gU.o args σ) gU.h
 unfold gU at hz
 dsimp only at hz
 simp(disch:=try exact jz) only[go_sem,am]
 refine aF (λq tm σ'=>∃j,q=m-j/\j<=m/\Tr.ah tm 0=.c (.sl ba 0 m ca)/\Tr.ah tm 1=.c bv/\Tr.ah tm 5=.c (.ptr σ.aj 0)/\Tr.ah tm 8=jN m/\Tr.ah tm 9=jN j
  /\σ'.h σ.aj=some ⟨[.bool (rn f),.str (rs f),.str (rd f)],none⟩/\σ'.h ba=some ⟨cZ m (minS a b f j),o⟩/\aU [ba] σ σ'/\σ.aj+1<=σ'.aj) m ?_ ?_
 .refine⟨0,jb,jb,?_⟩
  simp(disch:=try exact jz) only[go_sem,am,h1]
  exact⟨bO (λl=>some (Bk.mk l o)) (dS λk _=>(ab jb).symm),by repeat(first|assumption|exact aU.refl (by assumption)|exact aU.up (by assumption) kf|exact aU.up (aU.refl (by assumption)) kf|refine aU.set1 ?_ kg kf|refine aU.lW ?_ kg|refine aU.oG ?_ kg|refine aU.pK ?_ kf),jb⟩
 .rintro q tm σ' ⟨j,rfl,hj,t0,t1,t5,t8,t9,q5,q1,hf,hnx⟩
  have hle:=hf.le
  have mJ:=aU.refl (ex:=[ba]) hf.wf
  simp(disch:=try exact jz) only[go_sem,t0,t1,t5,t8,t9,aG]
  refine aH (λhlt=>?_) (λhlt=>?_)
  .obtain⟨b7,o7,c7,rfl,hp7,dB⟩:=aX.at3 hb hlt
   have hne:=hp _ hp7
   have dB:=hf.ld hW kd dB
   have y1:=za j hlt
   have y2:=zb j hlt
   have y3:=zm j hlt
   have y4:=zs j hlt
   have e1:minS a b f j j=a j:=ab jb
   have hb7:=hf.wf.dA dB
   have hb1:=hf.wf.lt q1
   by_cases h0:b j=0
   .simp(disch:=try exact jz) only[go_sem,t0,t1,t5,t8,t9,dB,hz,agL,h0,gn]
    refine⟨m-(j+1),jb,j+1,rfl,jb,rfl,q5,?_,by repeat(first|assumption|exact aU.refl (by assumption)|exact aU.up (by assumption) kf|exact aU.up (aU.refl (by assumption)) kf|refine aU.set1 ?_ kg kf|refine aU.lW ?_ kg|refine aU.oG ?_ kg|refine aU.pK ?_ kf),jb⟩
    grind[Go.Proofs.Xe.dS,Go.Proofs.Xe.minS]
   .simp(disch:=try exact jz) only[go_sem,t0,t1,t5,t8,t9,dB,hz,agL,h0,decide_false,au q5,au q1,q1,hrd,hpl,aI q1,e1]
    refine⟨m-(j+1),jb,j+1,rfl,jb,rfl,q5,bO (λl=>some (Bk.mk l o)) (dS λk _=>?_),by repeat(first|assumption|exact aU.refl (by assumption)|exact aU.up (by assumption) kf|exact aU.up (aU.refl (by assumption)) kf|refine aU.set1 ?_ kg kf|refine aU.lW ?_ kg|refine aU.oG ?_ kg|refine aU.pK ?_ kf),jb⟩
    grind[aN,minS]
  .have:j=m:=jb
   subst this
   simp(disch:=try exact jz) only[go_sem,am]
   refine⟨?_,hf⟩
   rw[q1]
   exact bO (λl=>some (Bk.mk l o)) (dS λk hk=>ae hk)
def Ul{n:Nat}(h:0<n):decide (n=0)=false:=az jb
def QB{n:Nat}(h:n<=16):decide (16<n)=false:=az jb
def ZG{σ:St}(hW:WF σ){p:Nat->Prop}{v:B}{n m:Nat}{A:Nat->Nat->Rat}(hA:dQ p σ.h v n (λ_=>m) A)(hn:0<n)(hn2:n<=16)(hm:0<m)(hm2:m<=16):
  aC EN 216 [.c v] σ λr σ'=>r=jN 0/\Fr σ σ':=by
 refine aO (yE.o _ _) yE.h ?_
 unfold yE
 dsimp only
 have hFr:=Fr.refl hW
 have hlen:=hA.len
 obtain⟨b6,o6,c6,T,rfl,-,bJ,hT⟩:=hA.at hn
 have wO:ld σ.h b6 (o6+0*1) 1 false=some (.c T):=bJ
 have hlT:=aX.len hT
 simp(disch:=try exact jz) only[go_sem,hlen,bJ,wO,hlT,Ul hn,Ul hm]
 refine aF (λq tm σ'=>∃i,q=n-i/\i<=n/\Tr.ah tm 0=.c (.sl b6 o6 n c6)/\Tr.ah tm 15=.c (.sl b6 o6 n c6)/\Tr.ah tm 16=jN n/\Tr.ah tm 17=jN i/\Fr σ σ') n ?_ ?_
 .refine⟨0,jb,jb,?_⟩
  simp(disch:=try exact jz) only[go_sem,am]
  exact hFr
 .rintro q tm σ' ⟨i,rfl,hi,t0,t15,t16,t17,hf⟩
  have wO:=hf.ld hW wO
  simp(disch:=try exact jz) only[go_sem,t0,t15,t16,t17,aG]
  refine aH (λhlt=>?_) (λhlt=>?_)
  .obtain⟨b7,o7,c7,T2,e7,-,dB,hT2⟩:=hA.at hlt
   cases e7
   have dB:=hf.ld hW dB
   have aAk:=aX.len hT2
   simp(disch:=try exact jz) only[go_sem,t0,t15,t16,t17,wO,dB,hlT,aAk,Fp]
   exact⟨n-(i+1),jb,i+1,rfl,jb,rfl,hf⟩
  .have:i=n:=jb
   subst this
   simp(disch:=try exact jz) only[go_sem,t0,hlen,wO,hlT,QB hn2,QB hm2,aG]
   exact hf
end Go.Proofs.Xe
end
