import Derived.Test.YthkggcakedkboaaGreatDoorYd36
set_option linter.all false
set_option maxRecDepth 100000
set_option maxHeartbeats 8000000
noncomputable section
namespace Go.Proofs.Xe
open Go.RowKit Go.Proofs.Ins
def zZ(l:List Rat):Option Rat:=l.foldl Ye none
def Rx(l:List Rat)(q:Rat):zZ (l++[q])=Ye (zZ l) q:=by grind[zZ]
def JB:∀(l:List Rat) (m:Rat),∃k,l.foldl Ye (some m)=some k/\(k=m\/k∈l)/\k<=m/\∀v∈l,k<=v
 |[],m=>⟨m,rfl,.inl rfl,aR,λv hv=>by cases hv⟩
 |a::l,m=>by
  rw[List.foldl_cons];by_cases h:a<m
  .rw[show Ye (some m) a=some a from ab h];obtain⟨k,h1,h2,h3,h4⟩:=JB l a;grind
  .rw[show Ye (some m) a=some m from ae h];obtain⟨k,h1,h2,h3,h4⟩:=JB l m;grind
def U6(l:List Rat):(l=[]/\zZ l=none)\/∃m,zZ l=some m/\m∈l/\∀v∈l,m<=v:=by
 cases l with
 |nil=>exact .inl ⟨rfl,rfl⟩
 |cons a l=>
  obtain⟨k,h1,h2,h3,h4⟩:=JB l a
  refine .inr ⟨k,h1,?_,λv hv=>?_⟩
  .grind
  grind
theorem Vq.uniq{e:eH}{n:Nat}{z x:Rat}{o o':Option Rat}(h:Vq e n z x o)(h':Vq e n z x o'):o=o':=by
 induction h with
 |no h=>cases h' with
  |no=>rfl
  |stop h2=>grind
  |go h2=>grind
 |stop h hs=>cases h' with
  |no h2=>grind
  |stop h2=>grind
  |go h2 hs2=>grind
 |go h hs _ ih=>cases h' with
  |no h2=>grind
  |stop h2 hs2=>grind
  |go h2 _ hr=>grind
open Classical in
def nxE(e:eH)(n:Nat)(x:Rat):Option Rat:=if h:∃o,Vq e n x x o then h.choose else none
def ajq{e:eH}{n:Nat}{x:Rat}{o:Option Rat}(h:Vq e n x x o):nxE e n x=o:=by
 have h2:∃o,Vq e n x x o:=⟨o,h⟩
 grind[nxE,Vq.uniq]
def mG(g:gW)(x:Nat->Rat)(i:Nat):Option Rat:=(nxE (dH (ix g.e i)) (kE g.e i) (x i)).map λy=>y-x i
theorem Ry{W:Rat}{q r:fA->Rat}:∀(t:List fA) (a:fA) (Q R:Rat),pW W q r Q R (t++[a])=pW W q r Q R t++(if Q+aJ t q+q a<W/\0<R+aJ t r+r a then [(W-(Q+aJ t q+q a))/(R+aJ t r+r a)]else [])
 |[],a,Q,R=>by show(if _ then _ else _)++[]=[]++_;simp_all[aJ,eh]
 |b::t,a,Q,R=>by show(if _ then _ else _)++pW W q r _ _ (t++[a])=((if _ then _ else _)++pW W q r _ _ t)++_;rw[Ry t a,hJ];have e1:aJ (b::t) q=q b+aJ t q:=rfl;have e2:aJ (b::t) r=r b+aJ t r:=rfl;rw[e1,e2,ip Q,ip R]
def U7(g:gW)(x d:Nat->Rat)(j:Nat):List Rat:=AY (mG g x) d g.e.length++((aX g).ds.take j).flatMap λd'=>pW d'.1 (gq (aX g) x) (gr (aX g) x d) 0 0 d'.2
def DI(g:gW)(x d:Nat->Rat)(j k:Nat):List Rat:=U7 g x d j++pW (dW g j) (gq (aX g) x) (gr (aX g) x d) 0 0 ((dL g j).take k)
def ae1(g:gW)(x d:Nat->Rat)(j:Nat):DI g x d j 0=U7 g x d j:=by unfold DI;rw[cF];exact dp _
def ajr(g:gW)(x d:Nat->Rat){j:Nat}(h:j<g.d.length):DI g x d j (dL g j).length=U7 g x d (j+1):=by grind[DI,U7,take_snoc,xO,OG]
def ae2(g:gW)(x d:Nat->Rat){j k:Nat}(h:k<(dL g j).length):DI g x d j (k+1)=DI g x d j k++(if aJ ((dL g j).take (k+1)) (gq (aX g) x)<dW g j/\0<aJ ((dL g j).take (k+1)) (gr (aX g) x d)then [(dW g j-aJ ((dL g j).take (k+1)) (gq (aX g) x))/aJ ((dL g j).take (k+1)) (gr (aX g) x d)]else []):=by grind[DI,take_snoc,Ry,mJ]
structure NrN(D:Nat)(g:gW)(x d:Nat->Rat):Prop where
 m:UU D g x
 nn:∀i,i<g.e.length->BA (dH (ix g.e i))/\0<=x i
 dz:∀i,i<g.e.length->Sz (d i)
 nx:∀i,i<g.e.length->0<d i->∃S:Rat->Prop,S (x i)/\(∀m,S m->∃D,BI D/\EOk D (kE g.e i) (dH (ix g.e i))/\MOk D (dH (ix g.e i)) m/\ROk D (dH (ix g.e i)) m/\SOk (dH (ix g.e i)) m)/\∀m t,S m->Ia (dH (ix g.e i)) m=some t->S (m+t)
 ny:∀i,i<g.e.length->0<d i->∀y,nxE (dH (ix g.e i)) (kE g.e i) (x i)=some y->Sz y/\Sz (y-x i)/\Sz ((y-x i)/d i)
 c1:∀i,i<=g.e.length->Sz (gq0 (zZ (AY (mG g x) d i)))
 c2:∀j,j<g.d.length->∀k,k<=(dL g j).length->Sz (gq0 (zZ (DI g x d j k)))/\Sz (dW g j-aJ ((dL g j).take k) (gq (aX g) x))/\Sz (aJ ((dL g j).take k) (gr (aX g) x d))
  /\Sz ((dW g j-aJ ((dL g j).take k) (gq (aX g) x))/aJ ((dL g j).take k) (gr (aX g) x d))
 c3:∀j,j<g.d.length->∀l∈dL g j,Sz (gq (aX g) x l)/\Sz (gs (aX g) x l.1 l)/\Sz (gr (aX g) x d l)
def Rz{σ:St}(hW:WF σ){sb:Nat}{g:gW}{x d:Nat->Rat}(hs:EH (Lt σ.aj) σ.h sb g){p:Nat->Prop}{xv dvv Dv Sv:B}(hx:jL p σ.h xv g.e.length x)(hd:jL p σ.h dvv g.e.length d)(hDv:dQ p σ.h Dv g.e.length (kE g.e) (PW g x))(hSv:dQ p σ.h Sv g.e.length (kE g.e) (Kt g x)){D:Nat}(hN:NrN D g x d):
  aC EN 71 [.c (.ptr sb 0),.c xv,.c dvv,.agg [Dv,Sv]] σ λr σ'=>r=.aY (.agg [.bool (rn (gq0 (zZ (jM g.e.length (aX g) (mG g x) x d)))),.str (rs (gq0 (zZ (jM g.e.length (aX g) (mG g x) x d)))),.str (rd (gq0 (zZ (jM g.e.length (aX g) (mG g x) x d))))]) (.aY (.c (.bool (zZ (jM g.e.length (aX g) (mG g x) x d)).isSome)) .tnil)/\Fr σ σ':=by
 refine aQ (jy.o _ _) jy.h ?_
 unfold jy
 dsimp only
 have hs':=hs
 obtain⟨⟨ev,gv,lv,bv,hsb,hg,⟨R,P,hL1,hL2⟩,hB⟩,hsl⟩:=hs
 have Yz:=hN.m.A.s
 have hn:=Yz.n
 have hnd:=Yz.d
 have hD:=Yz.hD
 have hlk:=hL1.kn
 have hll:=hL1.len
 have hlD:=hg.d.len
 have hdk:=hg.d.kn
 have k1:=hDv.kn
 have k2:=hSv.kn
 have hsl:sb<σ.aj:=hsl
 have hFr:=Fr.refl hW
 simp(disch:=try exact jz) only[go_sem,z3,k1,k2,au hsb,hll,hlk]
 refine bH.mono (Q:=λex tm σ'=>ex=.exit 0/\Tr.ah tm 0=.c (.ptr sb 0)/\Tr.ah tm 2=.c dvv/\Tr.ah tm 7=.c (.ptr σ.aj 0)/\Tr.ah tm 8=.c (.ptr (σ.aj+1) 0)/\Tr.ah tm 10=.c (.ptr (σ.aj+1+1) 0)/\Tr.ah tm 11=.c (.ptr (σ.aj+1+1+1) 0)/\Tr.ah tm 12=.fn 114 [.ptr (σ.aj+1+1+1) 0,.ptr (σ.aj+1+1) 0]
   /\σ'.h σ.aj=some ⟨[Dv,Sv],none⟩/\σ'.h (σ.aj+1)=some ⟨[.bool (rn 0),.str (rs 0),.str (rd 0)],none⟩/\Qd σ'.h (σ.aj+1+1+1) (σ.aj+1+1) (zZ (AY (mG g x) d g.e.length))/\Fr σ σ'/\σ.aj+1+1+1+1<=σ'.aj)
  (aF (λq tm σ'=>∃i,q=g.e.length-i/\i<=g.e.length/\Tr.ah tm 0=.c (.ptr sb 0)/\Tr.ah tm 1=.c xv/\Tr.ah tm 2=.c dvv/\Tr.ah tm 7=.c (.ptr σ.aj 0)/\Tr.ah tm 8=.c (.ptr (σ.aj+1) 0)/\Tr.ah tm 10=.c (.ptr (σ.aj+1+1) 0)/\Tr.ah tm 11=.c (.ptr (σ.aj+1+1+1) 0)/\Tr.ah tm 12=.fn 114 [.ptr (σ.aj+1+1+1) 0,.ptr (σ.aj+1+1) 0]
   /\Tr.ah tm 27=.c lv/\Tr.ah tm 28=.c (.int .i64 (.ofNat g.e.length))/\Tr.ah tm 29=.c (.int .i64 (.ofNat i))/\σ'.h σ.aj=some ⟨[Dv,Sv],none⟩/\σ'.h (σ.aj+1)=some ⟨[.bool (rn 0),.str (rs 0),.str (rd 0)],none⟩/\Qd σ'.h (σ.aj+1+1+1) (σ.aj+1+1) (zZ (AY (mG g x) d i))/\Fr σ σ'/\σ.aj+1+1+1+1<=σ'.aj) g.e.length ?_ ?_) ?_
 .refine⟨0,jb,jb,?_⟩
  simp(disch:=try exact jz) only[go_sem,z3,am]
  refine⟨⟨aA _ _ _,?_⟩,fr,jb⟩
  rw[ak _ _ _ _ jb,ak _ _ _ _ jb,aA]
  rfl
 .rintro q tm σ' ⟨i,rfl,hi,t0,t1,t2,t7,t8,t10,t11,t12,t27,t28,t29,q7,q8,hO,hf,hnx⟩
  have hle:=hf.le
  have kC:=Fr.refl hf.wf
  simp(disch:=try exact jz) only[go_sem,z3,t0,t1,t2,t7,t8,t10,t11,t12,t27,t28,t29,aG]
  refine aH (λhlt=>?_) (λhlt=>?_)
  .obtain⟨b5,o5,c5,rfl,-,bU⟩:=hL1.pos jb
   have hLi:=hL2 i hlt
   have hRk:=hLi.rk.kn
   have hPk:=hLi.Vr
   obtain⟨he1,he2,-,-⟩:=Yz.e i hlt
   have bU:=hf.ld hW (bU i hlt)
   obtain⟨b6,o6,c6,e6,-,bW⟩:=bf.at3 hd hlt
   obtain⟨b7,o7,c7,e7,-,cZ⟩:=bf.at3 hx hlt
   have ayO:=hW.dw bW
   have avo:=hW.dw cZ
   have bW:=hf.ld hW bW
   have cZ:=hf.ld hW cZ
   have a6:V.c (.sl b6 o6 g.e.length c6)=V.c dvv:=by rw[e6]
   have a7:V.c (.sl b7 o7 g.e.length c7)=V.c xv:=by rw[e7]
   rw[e6]at t2
   rw[e7]at t1
   have hb6:=hf.wf.dw bW
   have hb7:=hf.wf.dw cZ
   have hb5:=hf.wf.dw bU
   have z1:=hN.dz i hlt
   unfold jo at bU
   by_cases hp:0<d i
   .have hl7:=hf.wf.lt q7
    obtain⟨S,s1,s2,s3⟩:=hN.nx i hlt hp
    obtain⟨n1,n2⟩:=hN.nn i hlt
    have hzO:=hN.c1 i hi
    obtain⟨Dx,-,-,zx,-,-⟩:=s2 _ s1
    have zx:=zx.hm
    simp(disch:=try exact jz) only[go_sem,z3,t0,t1,t2,t7,t8,t10,t11,t12,t27,t28,t29,bU,bW,cZ,hRk,hPk,hp]
    refine aC.st (Fr σ') (fr) λiE=>?_
    have hf5:=hf.trans iE
    refine(aq7 iE.wf _ (dH (ix g.e i)) ((hLi.keep (λb hb=>hf5.old b hb) λ_ h=>h).lay) (x i) n1 n2 S s1 s2 s3).mono ?_
    rintro _ σ6 ⟨⟨o,ho,rfl⟩,iC⟩
    have lI:=iE.trans iC
    have aam:=hf.trans lI
    have zV:σ'.aj+1+1<=σ6.aj:=iC.le
    have hy6:σ6.h (σ'.aj+1)=some ⟨[.bool (rn 0),.str (rs 0),.str (rd 0)],none⟩:=iC.get iE.wf (aA _ _ _)
    have q76:=lI.get hf.wf q7
    have q86:=lI.get hf.wf q8
    have hO6:Qd σ6.h (σ.aj+1+1+1) (σ.aj+1+1) (zZ (AY (mG g x) d i)):=⟨lI.get hf.wf hO.f,lI.get hf.wf hO.o⟩
    have avp:=lI.ld hf.wf bW
    have avq:=lI.ld hf.wf cZ
    have hno:=ajq ho
    cases o with
    |none=>
     have hds:mG g x i=none:=by unfold mG;rw[hno];rfl
     have hcn:AY (mG g x) d (i+1)=AY (mG g x) d i:=by show _++_=_;rw[ab hp,hds,dp]
     unfold aq6
     simp(disch:=try exact jz) only[go_sem,z3,t0,t1,t2,t7,t8,t10,t11,t12,t27,t28,t29,au hy6,hy6,aI hy6]
     have hW6:=iC.wf
     refine⟨g.e.length-(i+1),jb,i+1,rfl,jb,a7,a6,rfl,q76,q86,?_,fr,jb⟩
     rw[hcn]
     exact⟨(ak _ _ _ _ jb).trans hO6.f,(ak _ _ _ _ jb).trans hO6.o⟩
    |some y=>
     have hds:mG g x i=some (y-x i):=by unfold mG;rw[hno];rfl
     have hcn:AY (mG g x) d (i+1)=AY (mG g x) d i++[(y-x i)/d i]:=by show _++_=_;rw[ab hp,hds]
     obtain⟨y1,y2,y3⟩:=hN.ny i hlt hp y hno
     unfold aq6
     simp(disch:=try exact jz) only[go_sem,z3,t0,t1,t2,t7,t8,t10,t11,t12,t27,t28,t29,au hy6,hy6,aI hy6,avp,avq]
     refine aC.st (Fr σ') (by have hW6:=iC.wf;exact fr) λrW=>?_
     have hO7:Qd (hset σ6.h (σ'.aj+1) ⟨[.bool (rn y),.str (rs y),.str (rd y)],none⟩) (σ.aj+1+1+1) (σ.aj+1+1) (zZ (AY (mG g x) d i)):=⟨(ak _ _ _ _ jb).trans hO6.f,(ak _ _ _ _ jb).trans hO6.o⟩
     refine(ajp rW.wf hO7 jb y2 z1 hp y3 hzO).mono ?_
     rintro v8 σ8 ⟨hO8,rP⟩
     rw[<-Rx,<-hcn]at hO8
     have aiT:σ6.aj<=σ8.aj:=rP.le
     have KU:=aT.to (hf.trans rW) rP λb hb=>by simp at hb;omega
     have avr:=rP.ld rW.wf (by simp<;>omega) (rW.ld hf.wf bW)
     have q78:=rP.get rW.wf (by simp<;>omega) (rW.get hf.wf q7)
     have q88:=rP.get rW.wf (by simp<;>omega) (rW.get hf.wf q8)
     simp(disch:=try exact jz) only[go_sem,z3,t0,t1,t2,t7,t8,t10,t11,t12,t27,t28,t29,avr]
     exact⟨g.e.length-(i+1),jb,i+1,rfl,jb,a7,a6,rfl,q78,q88,hO8,KU,jb⟩
   .have hcn:AY (mG g x) d (i+1)=AY (mG g x) d i:=by show _++_=_;rw[ae hp,dp]
    simp(disch:=try exact jz) only[go_sem,z3,t0,t1,t2,t7,t8,t10,t11,t12,t27,t28,t29,bU,bW,hRk,hPk,hp]
    refine⟨g.e.length-(i+1),jb,i+1,rfl,jb,a7,a6,rfl,q7,q8,?_,fr,jb⟩
    rw[hcn]
    have hl7:=hf.wf.lt q7
    refine⟨?_,?_⟩
    .repeat rw[ak _ _ _ _ jb]
     exact hO.f
    .repeat rw[ak _ _ _ _ jb]
     exact hO.o
  .have:i=g.e.length:=jb
   subst this
   simp(disch:=try exact jz) only[go_sem,z3,am]
   exact⟨t0,t2,t7,t8,t10,t11,t12,q7,q8,hO,hf,hnx⟩
 rintro _ tm σ3 ⟨rfl,t0,t2,t7,t8,t10,t11,t12,q7,q8,hO,hf3,hn3⟩
 have hle3:=hf3.le
 have aiy:=hf3.get hW hsb
 have hcz:AY (mG g x) d g.e.length=U7 g x d 0:=by unfold U7;rw[cF];exact(dp _).symm
 rw[hcz]at hO
 simp(disch:=try exact jz) only[go_sem,z3,t0,t2,t7,t8,t10,t11,t12,au aiy,hlD,hdk]
 refine aF (λq tm σ'=>∃j,q=g.d.length-j/\j<=g.d.length/\Tr.ah tm 2=.c dvv/\Tr.ah tm 7=.c (.ptr σ.aj 0)/\Tr.ah tm 8=.c (.ptr (σ.aj+1) 0)/\Tr.ah tm 10=.c (.ptr (σ.aj+1+1) 0)/\Tr.ah tm 11=.c (.ptr (σ.aj+1+1+1) 0)/\Tr.ah tm 12=.fn 114 [.ptr (σ.aj+1+1+1) 0,.ptr (σ.aj+1+1) 0]
   /\Tr.ah tm 67=.c gv/\Tr.ah tm 68=.c (.int .i64 (.ofNat g.d.length))/\Tr.ah tm 69=.c (.int .i64 (.ofNat j))
   /\σ'.h σ.aj=some ⟨[Dv,Sv],none⟩/\σ'.h (σ.aj+1)=some ⟨[.bool (rn 0),.str (rs 0),.str (rd 0)],none⟩/\Qd σ'.h (σ.aj+1+1+1) (σ.aj+1+1) (zZ (U7 g x d j))/\Fr σ σ'/\σ.aj+1+1+1+1<=σ'.aj) g.d.length ?_ ?_
 .refine⟨0,jb,jb,?_⟩
  simp(disch:=try exact jz) only[go_sem,z3,t2,t7,t8,t10,t11,t12,am]
  exact⟨q7,q8,hO,hf3,hn3⟩
 .rintro q tm σ' ⟨j,rfl,hj,t2,t7,t8,t10,t11,t12,t67,t68,t69,q7,q8,hO,hf,hnx⟩
  have hle:=hf.le
  simp(disch:=try exact jz) only[go_sem,z3,t2,t7,t8,t10,t11,t12,t67,t68,t69,aG]
  refine aH (λhlt=>?_) (λhlt=>?_)
  .obtain⟨b5,o5,c5,rfl,L1,bU,hL⟩:=hg.d.el hlt
   have bU:=hf.ld hW bU
   have hLk:=bf.kn hL
   have hlL:=bf.len hL
   obtain⟨hlen,Iq⟩:=Yz.l j hlt
   obtain⟨hwf,hw0,hwz⟩:=Yz.w j hlt
   have kC:=Fr.refl hf.wf
   have hw2:=qU hwf
   have hmx:He (rq (ix g.d j).w.n (ix g.d j).w.s (ix g.d j).w.d) 0=dW g j:=by rw[aap];exact Jr hw0
   generalize hm:(ix g.d j).l.length=m at*
   have hdl:(dL g j).length=m:=(Jv g j).trans hm
   have aiY:lenV (.c L1)=some (.c (.int .i64 (.ofNat m))):=hlL
   have hl7:=hf.wf.lt q7
   have hl8:=hf.wf.lt q8
   have hlf:=hf.wf.lt hO.f
   have hlo:=hf.wf.lt hO.o
   simp(disch:=try exact jz) only[go_sem,z3,t2,t7,t8,t10,t11,t12,t67,t68,t69,bU,hLk,aiY,hmx]
   refine bH.st (Fr σ') (fr) λiE=>?_
   have hf5:=hf.trans iE
   have yV:=iE.le
   refine bH.mono (Q:=λex tm σ4=>ex=.exit 4/\Tr.ah tm 2=.c dvv/\Tr.ah tm 7=.c (.ptr σ.aj 0)/\Tr.ah tm 8=.c (.ptr (σ.aj+1) 0)/\Tr.ah tm 10=.c (.ptr (σ.aj+1+1) 0)/\Tr.ah tm 11=.c (.ptr (σ.aj+1+1+1) 0)/\Tr.ah tm 12=.fn 114 [.ptr (σ.aj+1+1+1) 0,.ptr (σ.aj+1+1) 0]
    /\Tr.ah tm 67=.c (.sl b5 o5 g.d.length c5)/\Tr.ah tm 68=.c (.int .i64 (.ofNat g.d.length))/\Tr.ah tm 69=.c (.int .i64 (.ofNat j))/\σ4.h σ.aj=some ⟨[Dv,Sv],none⟩/\σ4.h (σ.aj+1)=some ⟨[.bool (rn 0),.str (rs 0),.str (rd 0)],none⟩/\Qd σ4.h (σ.aj+1+1+1) (σ.aj+1+1) (zZ (DI g x d j m))/\Fr σ σ4/\σ.aj+1+1+1+1<=σ4.aj)
    (aF (λq tm σ4=>∃k,q=m-k/\k<=m/\Tr.ah tm 2=.c dvv/\Tr.ah tm 7=.c (.ptr σ.aj 0)/\Tr.ah tm 8=.c (.ptr (σ.aj+1) 0)/\Tr.ah tm 10=.c (.ptr (σ.aj+1+1) 0)/\Tr.ah tm 11=.c (.ptr (σ.aj+1+1+1) 0)/\Tr.ah tm 12=.fn 114 [.ptr (σ.aj+1+1+1) 0,.ptr (σ.aj+1+1) 0]
     /\Tr.ah tm 19=.c (.ptr (σ'.aj+1) 0)/\Tr.ah tm 20=.c (.ptr (σ'.aj+1+1) 0)/\Tr.ah tm 67=.c (.sl b5 o5 g.d.length c5)/\Tr.ah tm 68=.c (.int .i64 (.ofNat g.d.length))/\Tr.ah tm 69=.c (.int .i64 (.ofNat j))/\Tr.ah tm 79=.c L1/\Tr.ah tm 80=.c (.int .i64 (.ofNat m))/\Tr.ah tm 81=.c (.int .i64 (.ofNat k))
     /\σ4.h σ.aj=some ⟨[Dv,Sv],none⟩/\σ4.h (σ.aj+1)=some ⟨[.bool (rn 0),.str (rs 0),.str (rd 0)],none⟩/\σ4.h (σ'.aj+1)=some ⟨[.bool (rn (dW g j-aJ ((dL g j).take k) (gq (aX g) x))),.str (rs (dW g j-aJ ((dL g j).take k) (gq (aX g) x))),.str (rd (dW g j-aJ ((dL g j).take k) (gq (aX g) x)))],none⟩
     /\σ4.h (σ'.aj+1+1)=some ⟨[.bool (rn (aJ ((dL g j).take k) (gr (aX g) x d))),.str (rs (aJ ((dL g j).take k) (gr (aX g) x d))),.str (rd (aJ ((dL g j).take k) (gr (aX g) x d)))],none⟩/\Qd σ4.h (σ.aj+1+1+1) (σ.aj+1+1) (zZ (DI g x d j k))/\Fr σ σ4/\σ'.aj+1+1+1<=σ4.aj) m ?_ ?_) ?_
   .refine⟨0,jb,jb,?_⟩
    simp(disch:=try exact jz) only[go_sem,z3,t2,t7,t8,t10,t11,t12,t67,t68,t69,am,cF]
    have e1:dW g j-aJ ([]:List fA) (gq (aX g) x)=dW g j:=by show dW g j-0=dW g j;grind
    rw[e1,ae1]
    refine⟨q7,q8,rfl,rfl,⟨?_,?_⟩,hf5,jb⟩
    .repeat rw[ak _ _ _ _ jb]
     exact hO.f
    .repeat rw[ak _ _ _ _ jb]
     exact hO.o
   .rintro q VR σ4 ⟨k,rfl,hk,t2,t7,t8,t10,t11,t12,t19,t20,t67,t68,t69,t79,t80,zX,q7,q8,q19,q20,hO,hf4,hn4⟩
    simp(disch:=try exact jz) only[go_sem,z3,t2,t7,t8,t10,t11,t12,t19,t20,t67,t68,t69,t79,t80,zX,aG]
    refine aH (λhltk=>?_) (λhltk=>?_)
    .obtain⟨b8,o8,c8,e8,-,nP⟩:=bf.pos hL (show 0<(ix g.d j).l.length by omega)
     have nP:=hf4.ld hW (nP k jb)
     rw[hm]at e8
     rw[e8]at t79
     have a8:V.c (.sl b8 o8 m c8)=V.c L1:=by rw[e8]
     obtain⟨e,c,EF,he,hc⟩:=Iq k hltk
     unfold J9 at nP
     rw[EF]at nP
     have hlk2:k<(dL g j).length:=jb
     have hix:ix (dL g j) k=(e,c):=by rw[aiG (by omega:k<(ix g.d j).l.length),EF];rfl
     have hmem:(e,c)∈dL g j:=by rw[<-hix];exact fO hlk2
     obtain⟨b9,o9,c9,T,eD,-,OL,hT⟩:=hDv.at he
     obtain⟨ba,oa,ca,rfl,-,ae3⟩:=bf.at3 hT hc
     obtain⟨bb,ob,cb,T2,eS,-,Yd,hT2⟩:=hSv.at he
     obtain⟨bc,oc,cc,rfl,-,ae4⟩:=bf.at3 hT2 hc
     obtain⟨bd,od,cd,e6,-,ae5⟩:=bf.at3 hd he
     have ayP:=hW.dw OL
     have ayQ:=hW.dw ae3
     have ayR:=hW.dw Yd
     have ayS:=hW.dw ae4
     have hbd0:=hW.dw ae5
     have xM:=hf4.le
     have OL:=hf4.ld hW OL
     have ae3:=hf4.ld hW ae3
     have Yd:=hf4.ld hW Yd
     have ae4:=hf4.ld hW ae4
     have ae5:=hf4.ld hW ae5
     rw[eD,eS]at q7
     rw[e6]at t2
     have a6:V.c (.sl bd od g.e.length cd)=V.c dvv:=by rw[e6]
     obtain⟨w1,w2,w3,-⟩:=hN.c2 j hlt k jb
     obtain⟨v1,v2,v3,v4⟩:=hN.c2 j hlt (k+1) jb
     obtain⟨u1,u2,u3⟩:=hN.c3 j hlt _ hmem
     have u1:Sz (PW g x e c):=u1
     have u2:Sz (Kt g x e c):=by have:gs (aX g) x (e,c).1 (e,c)=Kt g x e c:=ab rfl;rw[<-this];exact u2
     have u3:Sz (Kt g x e c*d e):=u3
     have u4:=hN.dz e he
     have s1:dW g j-aJ ((dL g j).take k) (gq (aX g) x)-PW g x e c=dW g j-aJ ((dL g j).take (k+1)) (gq (aX g) x):=by rw[take_snoc hlk2,mJ,hix];show _-PW g x e c=_-(_+PW g x e c);grind
     have s2:aJ ((dL g j).take k) (gr (aX g) x d)+Kt g x e c*d e=aJ ((dL g j).take (k+1)) (gr (aX g) x d):=by rw[take_snoc hlk2,mJ,hix];rfl
     have hsc:=ae2 g x d hlk2
     have y7:=Fr.refl hf4.wf
     generalize hA:dW g j-aJ ((dL g j).take (k+1)) (gq (aX g) x)=A at*
     generalize hB:aJ ((dL g j).take (k+1)) (gr (aX g) x d)=Bq at*
     have zA:=v2
     have zB:=v3
     rw[<-s1]at v2
     rw[<-s2]at v3
     have g7:∀b,b≠σ4.aj->b≠σ'.aj+1->b≠σ'.aj+1+1->(hset (hset (hset (hset σ4.h σ4.aj ⟨[.int .i64 (.ofNat 0),.int .i64 (.ofNat 0)],none⟩) σ4.aj ⟨[.int .i64 (.ofNat e),.int .i64 (.ofNat c)],none⟩) (σ'.aj+1) ⟨[.bool (rn A),.str (rs A),.str (rd A)],none⟩) (σ'.aj+1+1) ⟨[.bool (rn Bq),.str (rs Bq),.str (rd Bq)],none⟩) b=σ4.h b:=λb k1 k2 k3=>by rw[ak _ _ _ _ k3,ak _ _ _ _ k2,ak _ _ _ _ k1,ak _ _ _ _ k1]
     have hO7:Qd (hset (hset (hset (hset σ4.h σ4.aj ⟨[.int .i64 (.ofNat 0),.int .i64 (.ofNat 0)],none⟩) σ4.aj ⟨[.int .i64 (.ofNat e),.int .i64 (.ofNat c)],none⟩) (σ'.aj+1) ⟨[.bool (rn A),.str (rs A),.str (rd A)],none⟩) (σ'.aj+1+1) ⟨[.bool (rn Bq),.str (rs Bq),.str (rd Bq)],none⟩) (σ.aj+1+1+1) (σ.aj+1+1) (zZ (DI g x d j k)):=⟨(g7 _ jb jb jb).trans hO.f,(g7 _ jb jb jb).trans hO.o⟩
     by_cases h1:0<A
     .by_cases h2:0<Bq
      .simp(disch:=try exact jz) only[go_sem,z3,t2,t7,t8,t10,t11,t12,t19,t20,t67,t68,t69,t79,t80,zX,nP,OL,ae3,Yd,ae4,ae5,au q7,au q19,q19,aI q19,au q20,q20,aI q20,s1,s2,h1,h2]
       refine aC.st (Fr σ) (fr) λrW=>?_
       refine(ajp rW.wf hO7 jb zA zB h2 v4 w1).mono ?_
       rintro v8 σ8 ⟨hO8,rP⟩
       have hcn:DI g x d j (k+1)=DI g x d j k++[A/Bq]:=by rw[hsc,ab ⟨by grind,h2⟩]
       rw[<-Rx,<-hcn]at hO8
       have aiT:σ4.aj+1<=σ8.aj:=rP.le
       have KU:=aT.to rW rP λb hb=>by simp at hb;omega
       have q78:=rP.get rW.wf (by simp<;>omega) ((g7 _ jb jb jb).trans q7)
       have q88:=rP.get rW.wf (by simp<;>omega) ((g7 _ jb jb jb).trans q8)
       have axy:=rP.get rW.wf (by simp<;>omega) ((ak _ _ _ _ (show σ'.aj+1≠σ'.aj+1+1 by omega)).trans (aA _ _ _))
       have axz:=rP.get rW.wf (by simp<;>omega) (aA _ _ _)
       simp(disch:=try exact jz) only[go_sem,z3,t2,t7,t8,t10,t11,t12,t19,t20,t67,t68,t69,t79,t80,zX]
       refine⟨m-(k+1),jb,k+1,rfl,jb,a6,a8,rfl,?_,q88,?_,?_,?_,KU,jb⟩
       .rw[eD,eS];exact q78
       .rw[hA];exact axy
       .rw[hB];exact axz
       .exact hO8
      .simp(disch:=try exact jz) only[go_sem,z3,t2,t7,t8,t10,t11,t12,t19,t20,t67,t68,t69,t79,t80,zX,nP,OL,ae3,Yd,ae4,ae5,au q7,au q19,q19,aI q19,au q20,q20,aI q20,s1,s2,h1,h2]
       have hcn:DI g x d j (k+1)=DI g x d j k:=by rw[hsc,ae λh=>h2 h.2,dp]
       refine⟨m-(k+1),jb,k+1,rfl,jb,a6,a8,rfl,?_,q8,?_,?_,?_,fr,jb⟩
       .rw[eD,eS];exact q7
       .rw[hA]
       .rw[hB]
       .rw[hcn];exact hO7
     .simp(disch:=try exact jz) only[go_sem,z3,t2,t7,t8,t10,t11,t12,t19,t20,t67,t68,t69,t79,t80,zX,nP,OL,ae3,Yd,ae4,ae5,au q7,au q19,q19,aI q19,au q20,q20,aI q20,s1,s2,h1]
      have hcn:DI g x d j (k+1)=DI g x d j k:=by rw[hsc,ae λh=>h1 kd,dp]
      refine⟨m-(k+1),jb,k+1,rfl,jb,a6,a8,rfl,?_,q8,?_,?_,?_,fr,jb⟩
      .rw[eD,eS];exact q7
      .rw[hA]
      .rw[hB]
      .rw[hcn];exact hO7
    .have:k=m:=jb
     subst this
     simp(disch:=try exact jz) only[go_sem,z3,am]
     exact⟨t2,t7,t8,t10,t11,t12,t67,t68,t69,q7,q8,hO,hf4,jb⟩
   .rintro _ tm σ4 ⟨rfl,t2,t7,t8,t10,t11,t12,t67,t68,t69,q7,q8,hO,hf4,hn4⟩
    rw[<-hdl,ajr g x d hlt]at hO
    simp(disch:=try exact jz) only[go_sem,z3,t2,t7,t8,t10,t11,t12,t67,t68,t69]
    exact⟨g.d.length-(j+1),jb,j+1,rfl,jb,rfl,q7,q8,hO,hf4,hn4⟩
  .have:j=g.d.length:=jb
   subst this
   have hcs:U7 g x d g.d.length=jM g.e.length (aX g) (mG g x) x d:=by unfold U7 jM;rw[eO (by rw[xO];exact jp)]
   rw[hcs]at hO
   have o1:=hO.f
   have o2:=hO.o
   simp(disch:=try exact jz) only[go_sem,z3,t8,t10,t11,au o1,au o2,o1,o2,aI q8,q8]
   exact fr
def arW(g:gW)(i:Nat):Bool:=decide (0<(ix g.e i).m.q)
def ajs{σ:St}(hW:WF σ){sb:Nat}{g:gW}(hs:EH (Lt σ.aj) σ.h sb g)(hn:g.e.length<=1000)(hm:∀i,i<g.e.length->(ix g.e i).m.fits 1000000):
  aC EN 66 [.c (.ptr sb 0)] σ λr σ'=>(∃b,r=.c (.sl b 0 g.e.length (.ex g.e.length))/\σ'.h b=some ⟨bls g.e.length (arW g),none⟩/\σ.aj<=b/\b<σ'.aj)/\Fr σ σ':=by
 refine aQ (jR.o _ _) jR.h ?_
 unfold jR
 dsimp only
 obtain⟨⟨ev,gv,lv,bv,hsb,hg,⟨R,P,hL1,hL2⟩,hB⟩,hsl⟩:=hs
 have hlk:=hL1.kn
 have hll:=hL1.len
 have hlE:=hg.e.len
 have hek:=hg.e.kn
 have hsl:sb<σ.aj:=hsl
 have hFr:=Fr.refl hW
 simp(disch:=try exact jz) only[go_sem,z3,au hsb,hll,hlk,hlE,hek]
 refine aF (λq tm σ'=>∃i,q=g.e.length-i/\i<=g.e.length/\Tr.ah tm 3=.c (.sl σ.aj 0 g.e.length (.ex g.e.length))/\Tr.ah tm 16=.c ev/\Tr.ah tm 17=.c (.int .i64 (.ofNat g.e.length))/\Tr.ah tm 18=.c (.int .i64 (.ofNat i))
   /\σ'.h σ.aj=some ⟨ones g.e.length (λk=>.bool (if k<i then arW g k else false)),none⟩/\Fr σ σ'/\σ.aj+1<=σ'.aj) g.e.length ?_ ?_
 .refine⟨0,jb,jb,?_⟩
  simp(disch:=try exact jz) only[go_sem,z3,am]
  exact⟨bL (λl=>some (Bk.mk l none)) (dS λk _=>by rfl),fr,jb⟩
 .rintro q tm σ' ⟨i,rfl,hi,t3,t16,t17,ou,q3,hf,hnx⟩
  have hle:=hf.le
  have kC:=Fr.refl hf.wf
  simp(disch:=try exact jz) only[go_sem,z3,t3,t16,t17,ou,aG]
  refine aH (λhlt=>?_) (λhlt=>?_)
  .obtain⟨b5,o5,c5,rfl,C1,A1,bU,-,hC,hA1⟩:=hg.e.at hlt
   have bU:=hf.ld hW bU
   have UL:=bf.kn hC
   have hAk:=hA1.kn
   have hw:=qU (hm i hlt)
   simp(disch:=try exact jz) only[go_sem,z3,t3,t16,t17,ou,bU,UL,hAk,q3,aI q3]
   refine⟨g.e.length-(i+1),jb,i+1,rfl,jb,rfl,bL (λl=>some (Bk.mk l none)) (dS λk hk=>?_),fr,jb⟩
   unfold aO
   by_cases e:k=i
   .rw[ab e,ab jb,e];rfl
   grind
  .have:i=g.e.length:=jb
   subst this
   simp(disch:=try exact jz) only[go_sem,z3,t3]
   refine⟨⟨_,rfl,?_,jb,jb⟩,hf⟩
   rw[q3]
   exact bL (λl=>some (Bk.mk l none)) (dS λk hk=>by grind)
def ae6(q:Rat):decide (rs q=⟨#[]⟩)=decide (q=0):=by
 by_cases h:q=0
 .rw[bw h];exact bw (jE.mpr h)
 .rw[aw h];exact aw λe=>h (jE.mp e)
def ana{σ:St}(hW:WF σ){p:Nat->Prop}{v:B}{n m:Nat}{A:Nat->Nat->Rat}(hA:dQ p σ.h v n (λ_=>m) A)(hn:n<=1000){f c:Nat}(hf:f<=n)(hc:c<m):
  aC EN 204 [.c v,.c (.int .i64 (.ofNat f)),.c (.int .i64 (.ofNat c))] σ λr σ'=>r=.c (.int .i64 (if f+uG A c f (n-f)<n then .ofNat (f+uG A c f (n-f))else .negSucc 0))/\Fr σ σ':=by
 refine aQ (xu.o _ _) xu.h ?_
 unfold xu
 dsimp only
 have hlen:=hA.len
 have hz:=λ(args:List V) (σ:St) (K:V->St->Prop)=>kG (E:=EN) (K:=K) (gu.o args σ) gu.h
 unfold gu at hz
 dsimp only at hz
 simp(disch:=try exact jz) only[go_sem,z3,hlen]
 refine aF (λq tm σ'=>∃i,q=n-i/\f<=i/\i<=n/\Tr.ah tm 0=.c v/\Tr.ah tm 2=.c (.int .i64 (.ofNat c))/\Tr.ah tm 7=.c (.int .i64 (.ofNat i))/\f+uG A c f (n-f)=i+uG A c i (n-i)/\Fr σ σ') (n-f) ?_ ?_
 .refine⟨f,rfl,jp,hf,?_⟩
  simp(disch:=try exact jz) only[go_sem,z3,am]
  exact Fr.refl hW
 .rintro q tm σ' ⟨i,rfl,hi1,hi,t0,t2,t7,hfs,hf'⟩
  have hFr:=Fr.refl hf'.wf
  simp(disch:=try exact jz) only[go_sem,z3,t0,t2,t7,hlen,aG]
  refine aH (λhlt=>?_) (λhlt=>?_)
  .obtain⟨b6,o6,c6,T,rfl,-,bW,hT⟩:=hA.at hlt
   obtain⟨b7,o7,c7,rfl,-,cZ⟩:=bf.at3 hT hc
   have bW:=hf'.ld hW bW
   have cZ:=hf'.ld hW cZ
   have hs:n-i=(n-(i+1))+1:=jb
   have hst:uG A c i (n-i)=if A i c=0 then uG A c (i+1) (n-(i+1))+1 else 0:=by grind[uG]
   by_cases h0:A i c=0
   .simp(disch:=try exact jz) only[go_sem,z3,t0,t2,t7,bW,cZ,hz,ae6,h0,gn]
    rw[ab h0]at hst
    exact⟨n-(i+1),jb,i+1,rfl,jb,jb,rfl,jb,fr⟩
   .simp(disch:=try exact jz) only[go_sem,z3,t0,t2,t7,bW,cZ,hz,ae6,h0,decide_false]
    rw[ae h0]at hst
    rw[ab jb]
    exact⟨by grind,fr⟩
  .have:i=n:=jb
   subst this
   have:uG A c i (i-i)=0:=by rw[Nat.sub_self];rfl
   simp(disch:=try exact jz) only[go_sem,z3,t0]
   grind
def minS(a b:Nat->Rat)(f:Rat)(j k:Nat):Rat:=if k<j then a k-f*b k else a k
def anb{σ:St}(hW:WF σ){p:Nat->Prop}{ba m:Nat}{ca:Cap}{o:Option (Nat×Nat)}{a b:Nat->Rat}{bv:B}{f:Rat}(h1:σ.h ba=some ⟨bZ m a,o⟩)(hpl:plo o=true)(hrd:Yx o=true)(hb:jL p σ.h bv m b)(hp:∀x,p x->x≠ba)(hm:m<=1000)
  (z0:Sz f) (za:∀k,k<m->Sz (a k)) (zb:∀k,k<m->Sz (b k)) (zm:∀k,k<m->Sz (f*b k)) (zs:∀k,k<m->Sz (a k-f*b k)):
  aC EN 206 [.c (.sl ba 0 m ca),.c bv,.agg [.bool (rn f),.str (rs f),.str (rd f)]] σ λ_ σ'=>σ'.h ba=some ⟨bZ m λk=>a k-f*b k,o⟩/\aT [ba] σ σ':=by
 refine aQ (xw.o _ _) xw.h ?_
 unfold xw
 dsimp only
 have hba:=hW.lt h1
 have hFr:=aT.refl (ex:=[ba]) hW
 have hz:=λ(args:List V) (σ:St) (K:V->St->Prop)=>kG (E:=EN) (K:=K) (gu.o args σ) gu.h
 unfold gu at hz
 dsimp only at hz
 simp(disch:=try exact jz) only[go_sem,z3,am]
 refine aF (λq tm σ'=>∃j,q=m-j/\j<=m/\Tr.ah tm 0=.c (.sl ba 0 m ca)/\Tr.ah tm 1=.c bv/\Tr.ah tm 5=.c (.ptr σ.aj 0)/\Tr.ah tm 8=.c (.int .i64 (.ofNat m))/\Tr.ah tm 9=.c (.int .i64 (.ofNat j))
  /\σ'.h σ.aj=some ⟨[.bool (rn f),.str (rs f),.str (rd f)],none⟩/\σ'.h ba=some ⟨bZ m (minS a b f j),o⟩/\aT [ba] σ σ'/\σ.aj+1<=σ'.aj) m ?_ ?_
 .refine⟨0,jb,jb,?_⟩
  simp(disch:=try exact jz) only[go_sem,z3,am,h1]
  exact⟨bL (λl=>some (Bk.mk l o)) (dN λk _=>(ae jb).symm),by repeat(first|assumption|exact aT.refl (by assumption)|exact aT.up (by assumption) kf|exact aT.up (aT.refl (by assumption)) kf|refine aT.set1 ?_ kg kf|refine aT.kK ?_ kg|refine aT.nC ?_ kg|refine aT.nV ?_ kf),jb⟩
 .rintro q tm σ' ⟨j,rfl,hj,t0,t1,t5,t8,t9,q5,q1,hf,hnx⟩
  have hle:=hf.le
  have kC:=aT.refl (ex:=[ba]) hf.wf
  simp(disch:=try exact jz) only[go_sem,z3,t0,t1,t5,t8,t9,aG]
  refine aH (λhlt=>?_) (λhlt=>?_)
  .obtain⟨b7,o7,c7,rfl,hp7,cZ⟩:=bf.at3 hb hlt
   have hne:=hp _ hp7
   have cZ:=hf.ld hW kd cZ
   have y1:=za j hlt
   have y2:=zb j hlt
   have y3:=zm j hlt
   have y4:=zs j hlt
   have e1:minS a b f j j=a j:=ae jb
   have hb7:=hf.wf.dw cZ
   have hb1:=hf.wf.lt q1
   by_cases h0:b j=0
   .simp(disch:=try exact jz) only[go_sem,z3,t0,t1,t5,t8,t9,cZ,hz,ae6,h0,gn]
    refine⟨m-(j+1),jb,j+1,rfl,jb,rfl,q5,?_,by repeat(first|assumption|exact aT.refl (by assumption)|exact aT.up (by assumption) kf|exact aT.up (aT.refl (by assumption)) kf|refine aT.set1 ?_ kg kf|refine aT.kK ?_ kg|refine aT.nC ?_ kg|refine aT.nV ?_ kf),jb⟩
    grind[Go.Proofs.Xe.dN,Go.Proofs.Xe.minS]
   .simp(disch:=try exact jz) only[go_sem,z3,t0,t1,t5,t8,t9,cZ,hz,ae6,h0,decide_false,au q5,au q1,q1,hrd,hpl,aI q1,e1]
    refine⟨m-(j+1),jb,j+1,rfl,jb,rfl,q5,bL (λl=>some (Bk.mk l o)) (dN λk _=>?_),by repeat(first|assumption|exact aT.refl (by assumption)|exact aT.up (by assumption) kf|exact aT.up (aT.refl (by assumption)) kf|refine aT.set1 ?_ kg kf|refine aT.kK ?_ kg|refine aT.nC ?_ kg|refine aT.nV ?_ kf),jb⟩
    grind[aO,minS]
  .have:j=m:=jb
   subst this
   simp(disch:=try exact jz) only[go_sem,z3,am]
   refine⟨?_,hf⟩
   rw[q1]
   exact bL (λl=>some (Bk.mk l o)) (dN λk hk=>ab hk)
def RF{n:Nat}(h:0<n):decide (n=0)=false:=aw jb
def O6{n:Nat}(h:n<=16):decide (16<n)=false:=aw jb
def Yf{σ:St}(hW:WF σ){p:Nat->Prop}{v:B}{n m:Nat}{A:Nat->Nat->Rat}(hA:dQ p σ.h v n (λ_=>m) A)(hn:0<n)(hn2:n<=16)(hm:0<m)(hm2:m<=16):
  aC EN 175 [.c v] σ λr σ'=>r=.c (.int .i64 (.ofNat 0))/\Fr σ σ':=by
 refine aQ (xq.o _ _) xq.h ?_
 unfold xq
 dsimp only
 have hFr:=Fr.refl hW
 have hlen:=hA.len
 obtain⟨b6,o6,c6,T,rfl,-,bW,hT⟩:=hA.at hn
 have uZ:ld σ.h b6 (o6+0*1) 1 false=some (.c T):=bW
 have hlT:=bf.len hT
 simp(disch:=try exact jz) only[go_sem,z3,hlen,bW,uZ,hlT,RF hn,RF hm]
 refine aF (λq tm σ'=>∃i,q=n-i/\i<=n/\Tr.ah tm 0=.c (.sl b6 o6 n c6)/\Tr.ah tm 15=.c (.sl b6 o6 n c6)/\Tr.ah tm 16=.c (.int .i64 (.ofNat n))/\Tr.ah tm 17=.c (.int .i64 (.ofNat i))/\Fr σ σ') n ?_ ?_
 .refine⟨0,jb,jb,?_⟩
  simp(disch:=try exact jz) only[go_sem,z3,am]
  exact hFr
 .rintro q tm σ' ⟨i,rfl,hi,t0,t15,t16,t17,hf⟩
  have uZ:=hf.ld hW uZ
  simp(disch:=try exact jz) only[go_sem,z3,t0,t15,t16,t17,aG]
  refine aH (λhlt=>?_) (λhlt=>?_)
  .obtain⟨b7,o7,c7,T2,e7,-,cZ,hT2⟩:=hA.at hlt
   cases e7
   have cZ:=hf.ld hW cZ
   have axB:=bf.len hT2
   simp(disch:=try exact jz) only[go_sem,z3,t0,t15,t16,t17,uZ,cZ,hlT,axB,QS]
   exact⟨n-(i+1),jb,i+1,rfl,jb,rfl,hf⟩
  .have:i=n:=jb
   subst this
   simp(disch:=try exact jz) only[go_sem,z3,t0,hlen,uZ,hlT,O6 hn2,O6 hm2,aG]
   exact hf
end Go.Proofs.Xe
end
