import Derived.Test.YthkggcakedkboaaGreatDoorY33
set_option linter.all false
set_option maxRecDepth 100000
set_option maxHeartbeats 8000000
noncomputable section
namespace Go.Proofs.Xe
open Go.RowKit Go.Proofs.Ins
def yO(l:List Rat):Option Rat:=l.foldl WR none
def Qa(l:List Rat)(q:Rat):yO (l++[q])=WR (yO l) q:=by grind[yO]
def Iw:∀(l:List Rat) (m:Rat),∃k,l.foldl WR (some m)=some k/\(k=m\/k∈l)/\k<=m/\∀v∈l,k<=v
 |[],m=>⟨m,rfl,.inl rfl,aM,λv hv=>by cases hv⟩
 |a::l,m=>by
  rw[List.foldl_cons];by_cases h:a<m
  .rw[show WR (some m) a=some a from ae h];obtain⟨k,h1,h2,h3,h4⟩:=Iw l a;grind
  .rw[show WR (some m) a=some m from ab h];obtain⟨k,h1,h2,h3,h4⟩:=Iw l m;grind
def Tv(l:List Rat):(l=[]/\yO l=none)\/∃m,yO l=some m/\m∈l/\∀v∈l,m<=v:=by
 cases l with
 |nil=>exact .inl ⟨rfl,rfl⟩
 |cons a l=>
  obtain⟨k,h1,h2,h3,h4⟩:=Iw l a
  refine .inr ⟨k,h1,?_,λv hv=>?_⟩
  .grind
  grind
theorem TY.uniq{e:dV}{n:Nat}{z x:Rat}{o o':Option Rat}(h:TY e n z x o)(h':TY e n z x o'):o=o':=by
 induction h with
 |no h=>cases h' with
  |no=>rfl
  |stop h2=>grind
  |go h2=>grind
 |stop h hs=>cases h' with
  |no h2=>grind
  |stop h2=>grind
  |go h2 hs2=>grind
 |go h hs _ ih=>cases h' with
  |no h2=>grind
  |stop h2 hs2=>grind
  |go h2 _ hr=>grind
open Classical in
def nxE(e:dV)(n:Nat)(x:Rat):Option Rat:=if h:∃o,TY e n x x o then h.choose else none
def ahZ{e:dV}{n:Nat}{x:Rat}{o:Option Rat}(h:TY e n x x o):nxE e n x=o:=by
 have h2:∃o,TY e n x x o:=⟨o,h⟩
 grind[nxE,TY.uniq]
def lM(g:iD)(x:Nat->Rat)(i:Nat):Option Rat:=(nxE (dB (ix g.e i)) (kE g.e i) (x i)).map λy=>y-x i
theorem Qb{W:Rat}{q r:fD->Rat}:∀(t:List fD) (a:fD) (Q R:Rat),oL W q r Q R (t++[a])=oL W q r Q R t++(if Q+aG t q+q a<W/\0<R+aG t r+r a then [(W-(Q+aG t q+q a))/(R+aG t r+r a)]else [])
 |[],a,Q,R=>by show(if _ then _ else _)++[]=[]++_;simp_all[aG,cF]
 |b::t,a,Q,R=>by show(if _ then _ else _)++oL W q r _ _ (t++[a])=((if _ then _ else _)++oL W q r _ _ t)++_;rw[Qb t a,gN];have e1:aG (b::t) q=q b+aG t q:=rfl;have e2:aG (b::t) r=r b+aG t r:=rfl;rw[e1,e2,ij Q,ij R]
def Tz(g:iD)(x d:Nat->Rat)(j:Nat):List Rat:=zT (lM g x) d g.e.length++((aY g).ds.take j).flatMap λd'=>oL d'.1 (gq (aY g) x) (gr (aY g) x d) 0 0 d'.2
def BZ(g:iD)(x d:Nat->Rat)(j k:Nat):List Rat:=Tz g x d j++oL (dW g j) (gq (aY g) x) (gr (aY g) x d) 0 0 ((dL g j).take k)
def adA(g:iD)(x d:Nat->Rat)(j:Nat):BZ g x d j 0=Tz g x d j:=by unfold BZ;rw[cE];exact dc _
def ah0(g:iD)(x d:Nat->Rat){j:Nat}(h:j<g.d.length):BZ g x d j (dL g j).length=Tz g x d (j+1):=by grind[BZ,Tz,take_snoc,wF,Nk]
def adB(g:iD)(x d:Nat->Rat){j k:Nat}(h:k<(dL g j).length):BZ g x d j (k+1)=BZ g x d j k++(if aG ((dL g j).take (k+1)) (gq (aY g) x)<dW g j/\0<aG ((dL g j).take (k+1)) (gr (aY g) x d)then [(dW g j-aG ((dL g j).take (k+1)) (gq (aY g) x))/aG ((dL g j).take (k+1)) (gr (aY g) x d)]else []):=by grind[BZ,take_snoc,Qb,lN]
structure NrN(D:Nat)(g:iD)(x d:Nat->Rat):Prop where
 m:Tc D g x
 nn:∀i,i<g.e.length->Ad (dB (ix g.e i))/\0<=x i
 dz:∀i,i<g.e.length->Sz (d i)
 nx:∀i,i<g.e.length->0<d i->∃S:Rat->Prop,S (x i)/\(∀m,S m->∃D,Ah D/\EOk D (kE g.e i) (dB (ix g.e i))/\MOk D (dB (ix g.e i)) m/\ROk D (dB (ix g.e i)) m/\SOk (dB (ix g.e i)) m)/\∀m t,S m->F6 (dB (ix g.e i)) m=some t->S (m+t)
 ny:∀i,i<g.e.length->0<d i->∀y,nxE (dB (ix g.e i)) (kE g.e i) (x i)=some y->Sz y/\Sz (y-x i)/\Sz ((y-x i)/d i)
 c1:∀i,i<=g.e.length->Sz (gq0 (yO (zT (lM g x) d i)))
 c2:∀j,j<g.d.length->∀k,k<=(dL g j).length->Sz (gq0 (yO (BZ g x d j k)))/\Sz (dW g j-aG ((dL g j).take k) (gq (aY g) x))/\Sz (aG ((dL g j).take k) (gr (aY g) x d))
  /\Sz ((dW g j-aG ((dL g j).take k) (gq (aY g) x))/aG ((dL g j).take k) (gr (aY g) x d))
 c3:∀j,j<g.d.length->∀l∈dL g j,Sz (gq (aY g) x l)/\Sz (gs (aY g) x l.1 l)/\Sz (gr (aY g) x d l)
def Qc{σ:St}(hW:WF σ){sb:Nat}{g:iD}{x d:Nat->Rat}(hs:DC (Lt σ.aj) σ.h sb g){p:Nat->Prop}{xv Zb Dv Sv:B}(hx:jB p σ.h xv g.e.length x)(hd:jB p σ.h Zb g.e.length d)(hDv:dN p σ.h Dv g.e.length (kE g.e) (Oq g x))(hSv:dN p σ.h Sv g.e.length (kE g.e) (Jg g x)){D:Nat}(hN:NrN D g x d):
  aC EN 71 [.c (.ptr sb 0),.c xv,.c Zb,.agg [Dv,Sv]] σ λr σ'=>r=.aV (.agg [.bool (rn (gq0 (yO (jC g.e.length (aY g) (lM g x) x d)))),.str (rs (gq0 (yO (jC g.e.length (aY g) (lM g x) x d)))),.str (rd (gq0 (yO (jC g.e.length (aY g) (lM g x) x d))))]) (.aV (.c (.bool (yO (jC g.e.length (aY g) (lM g x) x d)).isSome)) .tnil)/\Fr σ σ':=by
 refine aN (ji.o _ _) ji.h ?_
 unfold ji
 dsimp only
 have hs':=hs
 obtain⟨⟨ev,gv,lv,bv,hsb,hg,⟨R,P,hL1,hL2⟩,hB⟩,hsl⟩:=hs
 have Xj:=hN.m.A.s
 have hn:=Xj.n
 have hnd:=Xj.d
 have hD:=Xj.hD
 have hlk:=hL1.kn
 have hll:=hL1.len
 have hlD:=hg.d.len
 have hdk:=hg.d.kn
 have k1:=hDv.kn
 have k2:=hSv.kn
 have hsl:sb<σ.aj:=hsl
 have hFr:=Fr.refl hW
 simp(disch:=try exact jz) only[go_sem,z3,k1,k2,ak hsb,hll,hlk]
 refine bK.mono (Q:=λex tm σ'=>ex=.exit 0/\Tr.ah tm 0=.c (.ptr sb 0)/\Tr.ah tm 2=.c Zb/\Tr.ah tm 7=.c (.ptr σ.aj 0)/\Tr.ah tm 8=.c (.ptr (σ.aj+1) 0)/\Tr.ah tm 10=.c (.ptr (σ.aj+1+1) 0)/\Tr.ah tm 11=.c (.ptr (σ.aj+1+1+1) 0)/\Tr.ah tm 12=.fn 114 [.ptr (σ.aj+1+1+1) 0,.ptr (σ.aj+1+1) 0]
   /\σ'.h σ.aj=some ⟨[Dv,Sv],none⟩/\σ'.h (σ.aj+1)=some ⟨[.bool (rn 0),.str (rs 0),.str (rd 0)],none⟩/\OE σ'.h (σ.aj+1+1+1) (σ.aj+1+1) (yO (zT (lM g x) d g.e.length))/\Fr σ σ'/\σ.aj+1+1+1+1<=σ'.aj)
  (aF (λq tm σ'=>∃i,q=g.e.length-i/\i<=g.e.length/\Tr.ah tm 0=.c (.ptr sb 0)/\Tr.ah tm 1=.c xv/\Tr.ah tm 2=.c Zb/\Tr.ah tm 7=.c (.ptr σ.aj 0)/\Tr.ah tm 8=.c (.ptr (σ.aj+1) 0)/\Tr.ah tm 10=.c (.ptr (σ.aj+1+1) 0)/\Tr.ah tm 11=.c (.ptr (σ.aj+1+1+1) 0)/\Tr.ah tm 12=.fn 114 [.ptr (σ.aj+1+1+1) 0,.ptr (σ.aj+1+1) 0]
   /\Tr.ah tm 27=.c lv/\Tr.ah tm 28=.c (.int .i64 (.ofNat g.e.length))/\Tr.ah tm 29=.c (.int .i64 (.ofNat i))/\σ'.h σ.aj=some ⟨[Dv,Sv],none⟩/\σ'.h (σ.aj+1)=some ⟨[.bool (rn 0),.str (rs 0),.str (rd 0)],none⟩/\OE σ'.h (σ.aj+1+1+1) (σ.aj+1+1) (yO (zT (lM g x) d i))/\Fr σ σ'/\σ.aj+1+1+1+1<=σ'.aj) g.e.length ?_ ?_) ?_
 .refine⟨0,jb,jb,?_⟩
  simp(disch:=try exact jz) only[go_sem,z3,ap]
  refine⟨⟨aB _ _ _,?_⟩,fr,jb⟩
  rw[au _ _ _ _ jb,au _ _ _ _ jb,aB]
  rfl
 .rintro q tm σ' ⟨i,rfl,hi,t0,t1,t2,t7,t8,t10,t11,t12,t27,t28,t29,q7,q8,hO,hf,hnx⟩
  have hle:=hf.le
  have jQ:=Fr.refl hf.wf
  simp(disch:=try exact jz) only[go_sem,z3,t0,t1,t2,t7,t8,t10,t11,t12,t27,t28,t29,aH]
  refine aJ (λhlt=>?_) (λhlt=>?_)
  .obtain⟨b5,o5,c5,rfl,-,bP⟩:=hL1.pos jb
   have hLi:=hL2 i hlt
   have hRk:=hLi.rk.kn
   have hPk:=hLi.Ua
   obtain⟨he1,he2,-,-⟩:=Xj.e i hlt
   have bP:=hf.ld hW (bP i hlt)
   obtain⟨b6,o6,c6,e6,-,bJ⟩:=aZ.at3 hd hlt
   obtain⟨b7,o7,c7,e7,-,dh⟩:=aZ.at3 hx hlt
   have awE:=hW.dw bJ
   have atn:=hW.dw dh
   have bJ:=hf.ld hW bJ
   have dh:=hf.ld hW dh
   have a6:V.c (.sl b6 o6 g.e.length c6)=V.c Zb:=by rw[e6]
   have a7:V.c (.sl b7 o7 g.e.length c7)=V.c xv:=by rw[e7]
   rw[e6]at t2
   rw[e7]at t1
   have hb6:=hf.wf.dw bJ
   have hb7:=hf.wf.dw dh
   have hb5:=hf.wf.dw bP
   have z1:=hN.dz i hlt
   unfold je at bP
   by_cases hp:0<d i
   .have hl7:=hf.wf.lt q7
    obtain⟨S,s1,s2,s3⟩:=hN.nx i hlt hp
    obtain⟨n1,n2⟩:=hN.nn i hlt
    have hzO:=hN.c1 i hi
    obtain⟨Dx,-,-,zx,-,-⟩:=s2 _ s1
    have zx:=zx.hm
    simp(disch:=try exact jz) only[go_sem,z3,t0,t1,t2,t7,t8,t10,t11,t12,t27,t28,t29,bP,bJ,dh,hRk,hPk,hp]
    refine aC.st (Fr σ') (fr) λgZ=>?_
    have hf5:=hf.trans gZ
    refine(apo gZ.wf _ (dB (ix g.e i)) ((hLi.keep (λb hb=>hf5.old b hb) λ_ h=>h).lay) (x i) n1 n2 S s1 s2 s3).mono ?_
    rintro _ σ6 ⟨⟨o,ho,rfl⟩,gX⟩
    have kH:=gZ.trans gX
    have YZ:=hf.trans kH
    have yI:σ'.aj+1+1<=σ6.aj:=gX.le
    have hy6:σ6.h (σ'.aj+1)=some ⟨[.bool (rn 0),.str (rs 0),.str (rd 0)],none⟩:=gX.get gZ.wf (aB _ _ _)
    have q76:=kH.get hf.wf q7
    have q86:=kH.get hf.wf q8
    have hO6:OE σ6.h (σ.aj+1+1+1) (σ.aj+1+1) (yO (zT (lM g x) d i)):=⟨kH.get hf.wf hO.f,kH.get hf.wf hO.o⟩
    have ato:=kH.ld hf.wf bJ
    have atp:=kH.ld hf.wf dh
    have hno:=ahZ ho
    cases o with
    |none=>
     have hds:lM g x i=none:=by unfold lM;rw[hno];rfl
     have hcn:zT (lM g x) d (i+1)=zT (lM g x) d i:=by show _++_=_;rw[ae hp,hds,dc]
     unfold apn
     simp(disch:=try exact jz) only[go_sem,z3,t0,t1,t2,t7,t8,t10,t11,t12,t27,t28,t29,ak hy6,hy6,aI hy6]
     have hW6:=gX.wf
     refine⟨g.e.length-(i+1),jb,i+1,rfl,jb,a7,a6,rfl,q76,q86,?_,fr,jb⟩
     rw[hcn]
     exact⟨(au _ _ _ _ jb).trans hO6.f,(au _ _ _ _ jb).trans hO6.o⟩
    |some y=>
     have hds:lM g x i=some (y-x i):=by unfold lM;rw[hno];rfl
     have hcn:zT (lM g x) d (i+1)=zT (lM g x) d i++[(y-x i)/d i]:=by show _++_=_;rw[ae hp,hds]
     obtain⟨y1,y2,y3⟩:=hN.ny i hlt hp y hno
     unfold apn
     simp(disch:=try exact jz) only[go_sem,z3,t0,t1,t2,t7,t8,t10,t11,t12,t27,t28,t29,ak hy6,hy6,aI hy6,ato,atp]
     refine aC.st (Fr σ') (by have hW6:=gX.wf;exact fr) λqG=>?_
     have hO7:OE (hset σ6.h (σ'.aj+1) ⟨[.bool (rn y),.str (rs y),.str (rd y)],none⟩) (σ.aj+1+1+1) (σ.aj+1+1) (yO (zT (lM g x) d i)):=⟨(au _ _ _ _ jb).trans hO6.f,(au _ _ _ _ jb).trans hO6.o⟩
     refine(ahY qG.wf hO7 jb y2 z1 hp y3 hzO).mono ?_
     rintro v8 σ8 ⟨hO8,qE⟩
     rw[<-Qa,<-hcn]at hO8
     have ahu:σ6.aj<=σ8.aj:=qE.le
     have JG:=aP.to (hf.trans qG) qE λb hb=>by simp at hb;omega
     have atq:=qE.ld qG.wf (by simp<;>omega) (qG.ld hf.wf bJ)
     have q78:=qE.get qG.wf (by simp<;>omega) (qG.get hf.wf q7)
     have q88:=qE.get qG.wf (by simp<;>omega) (qG.get hf.wf q8)
     simp(disch:=try exact jz) only[go_sem,z3,t0,t1,t2,t7,t8,t10,t11,t12,t27,t28,t29,atq]
     exact⟨g.e.length-(i+1),jb,i+1,rfl,jb,a7,a6,rfl,q78,q88,hO8,JG,jb⟩
   .have hcn:zT (lM g x) d (i+1)=zT (lM g x) d i:=by show _++_=_;rw[ab hp,dc]
    simp(disch:=try exact jz) only[go_sem,z3,t0,t1,t2,t7,t8,t10,t11,t12,t27,t28,t29,bP,bJ,hRk,hPk,hp]
    refine⟨g.e.length-(i+1),jb,i+1,rfl,jb,a7,a6,rfl,q7,q8,?_,fr,jb⟩
    rw[hcn]
    have hl7:=hf.wf.lt q7
    refine⟨?_,?_⟩
    .repeat rw[au _ _ _ _ jb]
     exact hO.f
    .repeat rw[au _ _ _ _ jb]
     exact hO.o
  .have:i=g.e.length:=jb
   subst this
   simp(disch:=try exact jz) only[go_sem,z3,ap]
   exact⟨t0,t2,t7,t8,t10,t11,t12,q7,q8,hO,hf,hnx⟩
 rintro _ tm σ3 ⟨rfl,t0,t2,t7,t8,t10,t11,t12,q7,q8,hO,hf3,hn3⟩
 have hle3:=hf3.le
 have ag9:=hf3.get hW hsb
 have hcz:zT (lM g x) d g.e.length=Tz g x d 0:=by unfold Tz;rw[cE];exact(dc _).symm
 rw[hcz]at hO
 simp(disch:=try exact jz) only[go_sem,z3,t0,t2,t7,t8,t10,t11,t12,ak ag9,hlD,hdk]
 refine aF (λq tm σ'=>∃j,q=g.d.length-j/\j<=g.d.length/\Tr.ah tm 2=.c Zb/\Tr.ah tm 7=.c (.ptr σ.aj 0)/\Tr.ah tm 8=.c (.ptr (σ.aj+1) 0)/\Tr.ah tm 10=.c (.ptr (σ.aj+1+1) 0)/\Tr.ah tm 11=.c (.ptr (σ.aj+1+1+1) 0)/\Tr.ah tm 12=.fn 114 [.ptr (σ.aj+1+1+1) 0,.ptr (σ.aj+1+1) 0]
   /\Tr.ah tm 67=.c gv/\Tr.ah tm 68=.c (.int .i64 (.ofNat g.d.length))/\Tr.ah tm 69=.c (.int .i64 (.ofNat j))
   /\σ'.h σ.aj=some ⟨[Dv,Sv],none⟩/\σ'.h (σ.aj+1)=some ⟨[.bool (rn 0),.str (rs 0),.str (rd 0)],none⟩/\OE σ'.h (σ.aj+1+1+1) (σ.aj+1+1) (yO (Tz g x d j))/\Fr σ σ'/\σ.aj+1+1+1+1<=σ'.aj) g.d.length ?_ ?_
 .refine⟨0,jb,jb,?_⟩
  simp(disch:=try exact jz) only[go_sem,z3,t2,t7,t8,t10,t11,t12,ap]
  exact⟨q7,q8,hO,hf3,hn3⟩
 .rintro q tm σ' ⟨j,rfl,hj,t2,t7,t8,t10,t11,t12,t67,t68,t69,q7,q8,hO,hf,hnx⟩
  have hle:=hf.le
  simp(disch:=try exact jz) only[go_sem,z3,t2,t7,t8,t10,t11,t12,t67,t68,t69,aH]
  refine aJ (λhlt=>?_) (λhlt=>?_)
  .obtain⟨b5,o5,c5,rfl,L1,bP,hL⟩:=hg.d.el hlt
   have bP:=hf.ld hW bP
   have hLk:=aZ.kn hL
   have hlL:=aZ.len hL
   obtain⟨hlen,Gp⟩:=Xj.l j hlt
   obtain⟨hwf,hw0,hwz⟩:=Xj.w j hlt
   have jQ:=Fr.refl hf.wf
   have hw2:=nU hwf
   have hmx:FD (rq (ix g.d j).w.n (ix g.d j).w.s (ix g.d j).w.d) 0=dW g j:=by rw[Y2];exact Ij hw0
   generalize hm:(ix g.d j).l.length=m at*
   have hdl:(dL g j).length=m:=(Io g j).trans hm
   have ahz:lenV (.c L1)=some (.c (.int .i64 (.ofNat m))):=hlL
   have hl7:=hf.wf.lt q7
   have hl8:=hf.wf.lt q8
   have hlf:=hf.wf.lt hO.f
   have hlo:=hf.wf.lt hO.o
   simp(disch:=try exact jz) only[go_sem,z3,t2,t7,t8,t10,t11,t12,t67,t68,t69,bP,hLk,ahz,hmx]
   refine bK.st (Fr σ') (fr) λgZ=>?_
   have hf5:=hf.trans gZ
   have yJ:=gZ.le
   refine bK.mono (Q:=λex tm σ4=>ex=.exit 4/\Tr.ah tm 2=.c Zb/\Tr.ah tm 7=.c (.ptr σ.aj 0)/\Tr.ah tm 8=.c (.ptr (σ.aj+1) 0)/\Tr.ah tm 10=.c (.ptr (σ.aj+1+1) 0)/\Tr.ah tm 11=.c (.ptr (σ.aj+1+1+1) 0)/\Tr.ah tm 12=.fn 114 [.ptr (σ.aj+1+1+1) 0,.ptr (σ.aj+1+1) 0]
    /\Tr.ah tm 67=.c (.sl b5 o5 g.d.length c5)/\Tr.ah tm 68=.c (.int .i64 (.ofNat g.d.length))/\Tr.ah tm 69=.c (.int .i64 (.ofNat j))/\σ4.h σ.aj=some ⟨[Dv,Sv],none⟩/\σ4.h (σ.aj+1)=some ⟨[.bool (rn 0),.str (rs 0),.str (rd 0)],none⟩/\OE σ4.h (σ.aj+1+1+1) (σ.aj+1+1) (yO (BZ g x d j m))/\Fr σ σ4/\σ.aj+1+1+1+1<=σ4.aj)
    (aF (λq tm σ4=>∃k,q=m-k/\k<=m/\Tr.ah tm 2=.c Zb/\Tr.ah tm 7=.c (.ptr σ.aj 0)/\Tr.ah tm 8=.c (.ptr (σ.aj+1) 0)/\Tr.ah tm 10=.c (.ptr (σ.aj+1+1) 0)/\Tr.ah tm 11=.c (.ptr (σ.aj+1+1+1) 0)/\Tr.ah tm 12=.fn 114 [.ptr (σ.aj+1+1+1) 0,.ptr (σ.aj+1+1) 0]
     /\Tr.ah tm 19=.c (.ptr (σ'.aj+1) 0)/\Tr.ah tm 20=.c (.ptr (σ'.aj+1+1) 0)/\Tr.ah tm 67=.c (.sl b5 o5 g.d.length c5)/\Tr.ah tm 68=.c (.int .i64 (.ofNat g.d.length))/\Tr.ah tm 69=.c (.int .i64 (.ofNat j))/\Tr.ah tm 79=.c L1/\Tr.ah tm 80=.c (.int .i64 (.ofNat m))/\Tr.ah tm 81=.c (.int .i64 (.ofNat k))
     /\σ4.h σ.aj=some ⟨[Dv,Sv],none⟩/\σ4.h (σ.aj+1)=some ⟨[.bool (rn 0),.str (rs 0),.str (rd 0)],none⟩/\σ4.h (σ'.aj+1)=some ⟨[.bool (rn (dW g j-aG ((dL g j).take k) (gq (aY g) x))),.str (rs (dW g j-aG ((dL g j).take k) (gq (aY g) x))),.str (rd (dW g j-aG ((dL g j).take k) (gq (aY g) x)))],none⟩
     /\σ4.h (σ'.aj+1+1)=some ⟨[.bool (rn (aG ((dL g j).take k) (gr (aY g) x d))),.str (rs (aG ((dL g j).take k) (gr (aY g) x d))),.str (rd (aG ((dL g j).take k) (gr (aY g) x d)))],none⟩/\OE σ4.h (σ.aj+1+1+1) (σ.aj+1+1) (yO (BZ g x d j k))/\Fr σ σ4/\σ'.aj+1+1+1<=σ4.aj) m ?_ ?_) ?_
   .refine⟨0,jb,jb,?_⟩
    simp(disch:=try exact jz) only[go_sem,z3,t2,t7,t8,t10,t11,t12,t67,t68,t69,ap,cE]
    have e1:dW g j-aG ([]:List fD) (gq (aY g) x)=dW g j:=by show dW g j-0=dW g j;grind
    rw[e1,adA]
    refine⟨q7,q8,rfl,rfl,⟨?_,?_⟩,hf5,jb⟩
    .repeat rw[au _ _ _ _ jb]
     exact hO.f
    .repeat rw[au _ _ _ _ jb]
     exact hO.o
   .rintro q Uz σ4 ⟨k,rfl,hk,t2,t7,t8,t10,t11,t12,t19,t20,t67,t68,t69,t79,t80,yL,q7,q8,q19,q20,hO,hf4,hn4⟩
    simp(disch:=try exact jz) only[go_sem,z3,t2,t7,t8,t10,t11,t12,t19,t20,t67,t68,t69,t79,t80,yL,aH]
    refine aJ (λhltk=>?_) (λhltk=>?_)
    .obtain⟨b8,o8,c8,e8,-,mY⟩:=aZ.pos hL (show 0<(ix g.d j).l.length by omega)
     have mY:=hf4.ld hW (mY k jb)
     rw[hm]at e8
     rw[e8]at t79
     have a8:V.c (.sl b8 o8 m c8)=V.c L1:=by rw[e8]
     obtain⟨e,c,Dz,he,hc⟩:=Gp k hltk
     unfold lgB at mY
     rw[Dz]at mY
     have hlk2:k<(dL g j).length:=jb
     have hix:ix (dL g j) k=(e,c):=by rw[ahh (by omega:k<(ix g.d j).l.length),Dz];rfl
     have hmem:(e,c)∈dL g j:=by rw[<-hix];exact fK hlk2
     obtain⟨b9,o9,c9,T,eD,-,Ns,hT⟩:=hDv.at he
     obtain⟨ba,oa,ca,rfl,-,adC⟩:=aZ.at3 hT hc
     obtain⟨bb,ob,cb,T2,eS,-,WQ,hT2⟩:=hSv.at he
     obtain⟨bc,oc,cc,rfl,-,adE⟩:=aZ.at3 hT2 hc
     obtain⟨bd,od,cd,e6,-,adF⟩:=aZ.at3 hd he
     have awF:=hW.dw Ns
     have awG:=hW.dw adC
     have awH:=hW.dw WQ
     have awI:=hW.dw adE
     have hbd0:=hW.dw adF
     have yH:=hf4.le
     have Ns:=hf4.ld hW Ns
     have adC:=hf4.ld hW adC
     have WQ:=hf4.ld hW WQ
     have adE:=hf4.ld hW adE
     have adF:=hf4.ld hW adF
     rw[eD,eS]at q7
     rw[e6]at t2
     have a6:V.c (.sl bd od g.e.length cd)=V.c Zb:=by rw[e6]
     obtain⟨w1,w2,w3,-⟩:=hN.c2 j hlt k jb
     obtain⟨v1,v2,v3,v4⟩:=hN.c2 j hlt (k+1) jb
     obtain⟨u1,u2,u3⟩:=hN.c3 j hlt _ hmem
     have u1:Sz (Oq g x e c):=u1
     have u2:Sz (Jg g x e c):=by have:gs (aY g) x (e,c).1 (e,c)=Jg g x e c:=ae rfl;rw[<-this];exact u2
     have u3:Sz (Jg g x e c*d e):=u3
     have u4:=hN.dz e he
     have s1:dW g j-aG ((dL g j).take k) (gq (aY g) x)-Oq g x e c=dW g j-aG ((dL g j).take (k+1)) (gq (aY g) x):=by rw[take_snoc hlk2,lN,hix];show _-Oq g x e c=_-(_+Oq g x e c);grind
     have s2:aG ((dL g j).take k) (gr (aY g) x d)+Jg g x e c*d e=aG ((dL g j).take (k+1)) (gr (aY g) x d):=by rw[take_snoc hlk2,lN,hix];rfl
     have hsc:=adB g x d hlk2
     have Em:=Fr.refl hf4.wf
     generalize hA:dW g j-aG ((dL g j).take (k+1)) (gq (aY g) x)=A at*
     generalize hB:aG ((dL g j).take (k+1)) (gr (aY g) x d)=Bq at*
     have zA:=v2
     have zB:=v3
     rw[<-s1]at v2
     rw[<-s2]at v3
     have g7:∀b,b≠σ4.aj->b≠σ'.aj+1->b≠σ'.aj+1+1->(hset (hset (hset (hset σ4.h σ4.aj ⟨[.int .i64 (.ofNat 0),.int .i64 (.ofNat 0)],none⟩) σ4.aj ⟨[.int .i64 (.ofNat e),.int .i64 (.ofNat c)],none⟩) (σ'.aj+1) ⟨[.bool (rn A),.str (rs A),.str (rd A)],none⟩) (σ'.aj+1+1) ⟨[.bool (rn Bq),.str (rs Bq),.str (rd Bq)],none⟩) b=σ4.h b:=λb k1 k2 k3=>by rw[au _ _ _ _ k3,au _ _ _ _ k2,au _ _ _ _ k1,au _ _ _ _ k1]
     have hO7:OE (hset (hset (hset (hset σ4.h σ4.aj ⟨[.int .i64 (.ofNat 0),.int .i64 (.ofNat 0)],none⟩) σ4.aj ⟨[.int .i64 (.ofNat e),.int .i64 (.ofNat c)],none⟩) (σ'.aj+1) ⟨[.bool (rn A),.str (rs A),.str (rd A)],none⟩) (σ'.aj+1+1) ⟨[.bool (rn Bq),.str (rs Bq),.str (rd Bq)],none⟩) (σ.aj+1+1+1) (σ.aj+1+1) (yO (BZ g x d j k)):=⟨(g7 _ jb jb jb).trans hO.f,(g7 _ jb jb jb).trans hO.o⟩
     by_cases h1:0<A
     .by_cases h2:0<Bq
      .simp(disch:=try exact jz) only[go_sem,z3,t2,t7,t8,t10,t11,t12,t19,t20,t67,t68,t69,t79,t80,yL,mY,Ns,adC,WQ,adE,adF,ak q7,ak q19,q19,aI q19,ak q20,q20,aI q20,s1,s2,h1,h2]
       refine aC.st (Fr σ) (fr) λqG=>?_
       refine(ahY qG.wf hO7 jb zA zB h2 v4 w1).mono ?_
       rintro v8 σ8 ⟨hO8,qE⟩
       have hcn:BZ g x d j (k+1)=BZ g x d j k++[A/Bq]:=by rw[hsc,ae ⟨by grind,h2⟩]
       rw[<-Qa,<-hcn]at hO8
       have ahu:σ4.aj+1<=σ8.aj:=qE.le
       have JG:=aP.to qG qE λb hb=>by simp at hb;omega
       have q78:=qE.get qG.wf (by simp<;>omega) ((g7 _ jb jb jb).trans q7)
       have q88:=qE.get qG.wf (by simp<;>omega) ((g7 _ jb jb jb).trans q8)
       have avp:=qE.get qG.wf (by simp<;>omega) ((au _ _ _ _ (show σ'.aj+1≠σ'.aj+1+1 by omega)).trans (aB _ _ _))
       have avq:=qE.get qG.wf (by simp<;>omega) (aB _ _ _)
       simp(disch:=try exact jz) only[go_sem,z3,t2,t7,t8,t10,t11,t12,t19,t20,t67,t68,t69,t79,t80,yL]
       refine⟨m-(k+1),jb,k+1,rfl,jb,a6,a8,rfl,?_,q88,?_,?_,?_,JG,jb⟩
       .rw[eD,eS];exact q78
       .rw[hA];exact avp
       .rw[hB];exact avq
       .exact hO8
      .simp(disch:=try exact jz) only[go_sem,z3,t2,t7,t8,t10,t11,t12,t19,t20,t67,t68,t69,t79,t80,yL,mY,Ns,adC,WQ,adE,adF,ak q7,ak q19,q19,aI q19,ak q20,q20,aI q20,s1,s2,h1,h2]
       have hcn:BZ g x d j (k+1)=BZ g x d j k:=by rw[hsc,ab λh=>h2 h.2,dc]
       refine⟨m-(k+1),jb,k+1,rfl,jb,a6,a8,rfl,?_,q8,?_,?_,?_,fr,jb⟩
       .rw[eD,eS];exact q7
       .rw[hA]
       .rw[hB]
       .rw[hcn];exact hO7
     .simp(disch:=try exact jz) only[go_sem,z3,t2,t7,t8,t10,t11,t12,t19,t20,t67,t68,t69,t79,t80,yL,mY,Ns,adC,WQ,adE,adF,ak q7,ak q19,q19,aI q19,ak q20,q20,aI q20,s1,s2,h1]
      have hcn:BZ g x d j (k+1)=BZ g x d j k:=by rw[hsc,ab λh=>h1 kd,dc]
      refine⟨m-(k+1),jb,k+1,rfl,jb,a6,a8,rfl,?_,q8,?_,?_,?_,fr,jb⟩
      .rw[eD,eS];exact q7
      .rw[hA]
      .rw[hB]
      .rw[hcn];exact hO7
    .have:k=m:=jb
     subst this
     simp(disch:=try exact jz) only[go_sem,z3,ap]
     exact⟨t2,t7,t8,t10,t11,t12,t67,t68,t69,q7,q8,hO,hf4,jb⟩
   .rintro _ tm σ4 ⟨rfl,t2,t7,t8,t10,t11,t12,t67,t68,t69,q7,q8,hO,hf4,hn4⟩
    rw[<-hdl,ah0 g x d hlt]at hO
    simp(disch:=try exact jz) only[go_sem,z3,t2,t7,t8,t10,t11,t12,t67,t68,t69]
    exact⟨g.d.length-(j+1),jb,j+1,rfl,jb,rfl,q7,q8,hO,hf4,hn4⟩
  .have:j=g.d.length:=jb
   subst this
   have hcs:Tz g x d g.d.length=jC g.e.length (aY g) (lM g x) x d:=by unfold Tz jC;rw[et (by rw[wF];exact jp)]
   rw[hcs]at hO
   have o1:=hO.f
   have o2:=hO.o
   simp(disch:=try exact jz) only[go_sem,z3,t8,t10,t11,ak o1,ak o2,o1,o2,aI q8,q8]
   exact fr
def ap7(g:iD)(i:Nat):Bool:=decide (0<(ix g.e i).m.q)
def ah1{σ:St}(hW:WF σ){sb:Nat}{g:iD}(hs:DC (Lt σ.aj) σ.h sb g)(hn:g.e.length<=1000)(hm:∀i,i<g.e.length->(ix g.e i).m.fits 1000000):
  aC EN 66 [.c (.ptr sb 0)] σ λr σ'=>(∃b,r=.c (.sl b 0 g.e.length (.ex g.e.length))/\σ'.h b=some ⟨bls g.e.length (ap7 g),none⟩/\σ.aj<=b/\b<σ'.aj)/\Fr σ σ':=by
 refine aN (jI.o _ _) jI.h ?_
 unfold jI
 dsimp only
 obtain⟨⟨ev,gv,lv,bv,hsb,hg,⟨R,P,hL1,hL2⟩,hB⟩,hsl⟩:=hs
 have hlk:=hL1.kn
 have hll:=hL1.len
 have hlE:=hg.e.len
 have hek:=hg.e.kn
 have hsl:sb<σ.aj:=hsl
 have hFr:=Fr.refl hW
 simp(disch:=try exact jz) only[go_sem,z3,ak hsb,hll,hlk,hlE,hek]
 refine aF (λq tm σ'=>∃i,q=g.e.length-i/\i<=g.e.length/\Tr.ah tm 3=.c (.sl σ.aj 0 g.e.length (.ex g.e.length))/\Tr.ah tm 16=.c ev/\Tr.ah tm 17=.c (.int .i64 (.ofNat g.e.length))/\Tr.ah tm 18=.c (.int .i64 (.ofNat i))
   /\σ'.h σ.aj=some ⟨ones g.e.length (λk=>.bool (if k<i then ap7 g k else false)),none⟩/\Fr σ σ'/\σ.aj+1<=σ'.aj) g.e.length ?_ ?_
 .refine⟨0,jb,jb,?_⟩
  simp(disch:=try exact jz) only[go_sem,z3,ap]
  exact⟨bM (λl=>some (Bk.mk l none)) (dQ λk _=>by rfl),fr,jb⟩
 .rintro q tm σ' ⟨i,rfl,hi,t3,t16,t17,rP,q3,hf,hnx⟩
  have hle:=hf.le
  have jQ:=Fr.refl hf.wf
  simp(disch:=try exact jz) only[go_sem,z3,t3,t16,t17,rP,aH]
  refine aJ (λhlt=>?_) (λhlt=>?_)
  .obtain⟨b5,o5,c5,rfl,C1,A1,bP,-,hC,hA1⟩:=hg.e.at hlt
   have bP:=hf.ld hW bP
   have V3:=aZ.kn hC
   have hAk:=hA1.kn
   have hw:=nU (hm i hlt)
   simp(disch:=try exact jz) only[go_sem,z3,t3,t16,t17,rP,bP,V3,hAk,q3,aI q3]
   refine⟨g.e.length-(i+1),jb,i+1,rfl,jb,rfl,bM (λl=>some (Bk.mk l none)) (dQ λk hk=>?_),fr,jb⟩
   unfold aT
   by_cases e:k=i
   .rw[ae e,ae jb,e];rfl
   grind
  .have:i=g.e.length:=jb
   subst this
   simp(disch:=try exact jz) only[go_sem,z3,t3]
   refine⟨⟨_,rfl,?_,jb,jb⟩,hf⟩
   rw[q3]
   exact bM (λl=>some (Bk.mk l none)) (dQ λk hk=>by grind)
def adG(q:Rat):decide (rs q=⟨#[]⟩)=decide (q=0):=by
 by_cases h:q=0
 .rw[bj h];exact bj (jo.mpr h)
 .rw[aw h];exact aw λe=>h (jo.mp e)
def aly{σ:St}(hW:WF σ){p:Nat->Prop}{v:B}{n m:Nat}{A:Nat->Nat->Rat}(hA:dN p σ.h v n (λ_=>m) A)(hn:n<=1000){f c:Nat}(hf:f<=n)(hc:c<m):
  aC EN 204 [.c v,.c (.int .i64 (.ofNat f)),.c (.int .i64 (.ofNat c))] σ λr σ'=>r=.c (.int .i64 (if f+sJ A c f (n-f)<n then .ofNat (f+sJ A c f (n-f))else .negSucc 0))/\Fr σ σ':=by
 refine aN (vV.o _ _) vV.h ?_
 unfold vV
 dsimp only
 have hlen:=hA.len
 have hz:=λ(args:List V) (σ:St) (K:V->St->Prop)=>jS (E:=EN) (K:=K) (fZ.o args σ) fZ.h
 unfold fZ at hz
 dsimp only at hz
 simp(disch:=try exact jz) only[go_sem,z3,hlen]
 refine aF (λq tm σ'=>∃i,q=n-i/\f<=i/\i<=n/\Tr.ah tm 0=.c v/\Tr.ah tm 2=.c (.int .i64 (.ofNat c))/\Tr.ah tm 7=.c (.int .i64 (.ofNat i))/\f+sJ A c f (n-f)=i+sJ A c i (n-i)/\Fr σ σ') (n-f) ?_ ?_
 .refine⟨f,rfl,jp,hf,?_⟩
  simp(disch:=try exact jz) only[go_sem,z3,ap]
  exact Fr.refl hW
 .rintro q tm σ' ⟨i,rfl,hi1,hi,t0,t2,t7,hfs,hf'⟩
  have hFr:=Fr.refl hf'.wf
  simp(disch:=try exact jz) only[go_sem,z3,t0,t2,t7,hlen,aH]
  refine aJ (λhlt=>?_) (λhlt=>?_)
  .obtain⟨b6,o6,c6,T,rfl,-,bJ,hT⟩:=hA.at hlt
   obtain⟨b7,o7,c7,rfl,-,dh⟩:=aZ.at3 hT hc
   have bJ:=hf'.ld hW bJ
   have dh:=hf'.ld hW dh
   have hs:n-i=(n-(i+1))+1:=jb
   have hst:sJ A c i (n-i)=if A i c=0 then sJ A c (i+1) (n-(i+1))+1 else 0:=by grind[sJ]
   by_cases h0:A i c=0
   .simp(disch:=try exact jz) only[go_sem,z3,t0,t2,t7,bJ,dh,hz,adG,h0,gb]
    rw[ae h0]at hst
    exact⟨n-(i+1),jb,i+1,rfl,jb,jb,rfl,jb,fr⟩
   .simp(disch:=try exact jz) only[go_sem,z3,t0,t2,t7,bJ,dh,hz,adG,h0,decide_false]
    rw[ab h0]at hst
    rw[ae jb]
    exact⟨by grind,fr⟩
  .have:i=n:=jb
   subst this
   have:sJ A c i (i-i)=0:=by rw[Nat.sub_self];rfl
   simp(disch:=try exact jz) only[go_sem,z3,t0]
   grind
def minS(a b:Nat->Rat)(f:Rat)(j k:Nat):Rat:=if k<j then a k-f*b k else a k
def alz{σ:St}(hW:WF σ){p:Nat->Prop}{ba m:Nat}{ca:Cap}{o:Option (Nat×Nat)}{a b:Nat->Rat}{bv:B}{f:Rat}(h1:σ.h ba=some ⟨bU m a,o⟩)(hpl:plo o=true)(hrd:Xh o=true)(hb:jB p σ.h bv m b)(hp:∀x,p x->x≠ba)(hm:m<=1000)
  (z0:Sz f) (za:∀k,k<m->Sz (a k)) (zb:∀k,k<m->Sz (b k)) (zm:∀k,k<m->Sz (f*b k)) (zs:∀k,k<m->Sz (a k-f*b k)):
  aC EN 206 [.c (.sl ba 0 m ca),.c bv,.agg [.bool (rn f),.str (rs f),.str (rd f)]] σ λ_ σ'=>σ'.h ba=some ⟨bU m λk=>a k-f*b k,o⟩/\aP [ba] σ σ':=by
 refine aN (vW.o _ _) vW.h ?_
 unfold vW
 dsimp only
 have hba:=hW.lt h1
 have hFr:=aP.refl (ex:=[ba]) hW
 have hz:=λ(args:List V) (σ:St) (K:V->St->Prop)=>jS (E:=EN) (K:=K) (fZ.o args σ) fZ.h
 unfold fZ at hz
 dsimp only at hz
 simp(disch:=try exact jz) only[go_sem,z3,ap]
 refine aF (λq tm σ'=>∃j,q=m-j/\j<=m/\Tr.ah tm 0=.c (.sl ba 0 m ca)/\Tr.ah tm 1=.c bv/\Tr.ah tm 5=.c (.ptr σ.aj 0)/\Tr.ah tm 8=.c (.int .i64 (.ofNat m))/\Tr.ah tm 9=.c (.int .i64 (.ofNat j))
  /\σ'.h σ.aj=some ⟨[.bool (rn f),.str (rs f),.str (rd f)],none⟩/\σ'.h ba=some ⟨bU m (minS a b f j),o⟩/\aP [ba] σ σ'/\σ.aj+1<=σ'.aj) m ?_ ?_
 .refine⟨0,jb,jb,?_⟩
  simp(disch:=try exact jz) only[go_sem,z3,ap,h1]
  exact⟨bM (λl=>some (Bk.mk l o)) (dI λk _=>(ab jb).symm),by repeat(first|assumption|exact aP.refl (by assumption)|exact aP.up (by assumption) kf|exact aP.up (aP.refl (by assumption)) kf|refine aP.set1 ?_ kg kf|refine aP.jV ?_ kg|refine aP.mG ?_ kg|refine aP.nG ?_ kf),jb⟩
 .rintro q tm σ' ⟨j,rfl,hj,t0,t1,t5,t8,t9,q5,q1,hf,hnx⟩
  have hle:=hf.le
  have jQ:=aP.refl (ex:=[ba]) hf.wf
  simp(disch:=try exact jz) only[go_sem,z3,t0,t1,t5,t8,t9,aH]
  refine aJ (λhlt=>?_) (λhlt=>?_)
  .obtain⟨b7,o7,c7,rfl,hp7,dh⟩:=aZ.at3 hb hlt
   have hne:=hp _ hp7
   have dh:=hf.ld hW kd dh
   have y1:=za j hlt
   have y2:=zb j hlt
   have y3:=zm j hlt
   have y4:=zs j hlt
   have e1:minS a b f j j=a j:=ab jb
   have hb7:=hf.wf.dw dh
   have hb1:=hf.wf.lt q1
   by_cases h0:b j=0
   .simp(disch:=try exact jz) only[go_sem,z3,t0,t1,t5,t8,t9,dh,hz,adG,h0,gb]
    refine⟨m-(j+1),jb,j+1,rfl,jb,rfl,q5,?_,by repeat(first|assumption|exact aP.refl (by assumption)|exact aP.up (by assumption) kf|exact aP.up (aP.refl (by assumption)) kf|refine aP.set1 ?_ kg kf|refine aP.jV ?_ kg|refine aP.mG ?_ kg|refine aP.nG ?_ kf),jb⟩
    grind[Go.Proofs.Xe.dI,Go.Proofs.Xe.minS]
   .simp(disch:=try exact jz) only[go_sem,z3,t0,t1,t5,t8,t9,dh,hz,adG,h0,decide_false,ak q5,ak q1,q1,hrd,hpl,aI q1,e1]
    refine⟨m-(j+1),jb,j+1,rfl,jb,rfl,q5,bM (λl=>some (Bk.mk l o)) (dI λk _=>?_),by repeat(first|assumption|exact aP.refl (by assumption)|exact aP.up (by assumption) kf|exact aP.up (aP.refl (by assumption)) kf|refine aP.set1 ?_ kg kf|refine aP.jV ?_ kg|refine aP.mG ?_ kg|refine aP.nG ?_ kf),jb⟩
    grind[aT,minS]
  .have:j=m:=jb
   subst this
   simp(disch:=try exact jz) only[go_sem,z3,ap]
   refine⟨?_,hf⟩
   rw[q1]
   exact bM (λl=>some (Bk.mk l o)) (dI λk hk=>ae hk)
def Qd{n:Nat}(h:0<n):decide (n=0)=false:=aw jb
def NP{n:Nat}(h:n<=16):decide (16<n)=false:=aw jb
def WS{σ:St}(hW:WF σ){p:Nat->Prop}{v:B}{n m:Nat}{A:Nat->Nat->Rat}(hA:dN p σ.h v n (λ_=>m) A)(hn:0<n)(hn2:n<=16)(hm:0<m)(hm2:m<=16):
  aC EN 175 [.c v] σ λr σ'=>r=.c (.int .i64 (.ofNat 0))/\Fr σ σ':=by
 refine aN (vU.o _ _) vU.h ?_
 unfold vU
 dsimp only
 have hFr:=Fr.refl hW
 have hlen:=hA.len
 obtain⟨b6,o6,c6,T,rfl,-,bJ,hT⟩:=hA.at hn
 have tK:ld σ.h b6 (o6+0*1) 1 false=some (.c T):=bJ
 have hlT:=aZ.len hT
 simp(disch:=try exact jz) only[go_sem,z3,hlen,bJ,tK,hlT,Qd hn,Qd hm]
 refine aF (λq tm σ'=>∃i,q=n-i/\i<=n/\Tr.ah tm 0=.c (.sl b6 o6 n c6)/\Tr.ah tm 15=.c (.sl b6 o6 n c6)/\Tr.ah tm 16=.c (.int .i64 (.ofNat n))/\Tr.ah tm 17=.c (.int .i64 (.ofNat i))/\Fr σ σ') n ?_ ?_
 .refine⟨0,jb,jb,?_⟩
  simp(disch:=try exact jz) only[go_sem,z3,ap]
  exact hFr
 .rintro q tm σ' ⟨i,rfl,hi,t0,t15,t16,t17,hf⟩
  have tK:=hf.ld hW tK
  simp(disch:=try exact jz) only[go_sem,z3,t0,t15,t16,t17,aH]
  refine aJ (λhlt=>?_) (λhlt=>?_)
  .obtain⟨b7,o7,c7,T2,e7,-,dh,hT2⟩:=hA.at hlt
   cases e7
   have dh:=hf.ld hW dh
   have avs:=aZ.len hT2
   simp(disch:=try exact jz) only[go_sem,z3,t0,t15,t16,t17,tK,dh,hlT,avs,PG]
   exact⟨n-(i+1),jb,i+1,rfl,jb,rfl,hf⟩
  .have:i=n:=jb
   subst this
   simp(disch:=try exact jz) only[go_sem,z3,t0,hlen,tK,hlT,NP hn2,NP hm2,aH]
   exact hf
end Go.Proofs.Xe
end
