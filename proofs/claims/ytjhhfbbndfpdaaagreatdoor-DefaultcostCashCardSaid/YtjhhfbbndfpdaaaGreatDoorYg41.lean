import Derived.Test.YtjhhfbbndfpdaaaGreatDoorYg40
set_option linter.all false
set_option maxRecDepth 100000
set_option maxHeartbeats 8000000
attribute [-go_sem] Go.Proofs.Xe.ayo Go.Proofs.Xe.ayp Go.Proofs.Xe.ayq
noncomputable section
namespace Go.Proofs.Xe
open Go.RowKit Go.Proofs.Ins
def BI(l:List Rat):Option Rat:=l.foldl aaL none
def Vr(l:List Rat)(q:Rat):BI (l++[q])=aaL (BI l) q:=by grind[BI]
def LW:∀(l:List Rat) (m:Rat),∃k,l.foldl aaL (some m)=some k/\(k=m\/k∈l)/\k<=m/\∀v∈l,k<=v
 |[],m=>⟨m,rfl,.inl rfl,aR,λv hv=>by cases hv⟩
 |a::l,m=>by
  rw[List.foldl_cons];by_cases h:a<m
  .rw[show aaL (some m) a=some a from ab h];obtain⟨k,h1,h2,h3,h4⟩:=LW l a;grind
  .rw[show aaL (some m) a=some m from ae h];obtain⟨k,h1,h2,h3,h4⟩:=LW l m;grind
def XJ(l:List Rat):(l=[]/\BI l=none)\/∃m,BI l=some m/\m∈l/\∀v∈l,m<=v:=by
 cases l with
 |nil=>exact .inl ⟨rfl,rfl⟩
 |cons a l=>
  obtain⟨k,h1,h2,h3,h4⟩:=LW l a
  refine .inr ⟨k,h1,?_,λv hv=>?_⟩
  .grind
  grind
theorem X9.uniq{e:fC}{n:Nat}{z x:Rat}{o o':Option Rat}(h:X9 e n z x o)(h':X9 e n z x o'):o=o':=by
 induction h with
 |no h=>cases h' with
  |no=>rfl
  |stop h2=>grind
  |go h2=>grind
 |stop h hs=>cases h' with
  |no h2=>grind
  |stop h2=>grind
  |go h2 hs2=>grind
 |go h hs _ ih=>cases h' with
  |no h2=>grind
  |stop h2 hs2=>grind
  |go h2 _ hr=>grind
open Classical in
def nxE(e:fC)(n:Nat)(x:Rat):Option Rat:=if h:∃o,X9 e n x x o then h.choose else none
def amg{e:fC}{n:Nat}{x:Rat}{o:Option Rat}(h:X9 e n x x o):nxE e n x=o:=by
 have h2:∃o,X9 e n x x o:=⟨o,h⟩
 grind[nxE,X9.uniq]
def oh(g:fH)(x:Nat->Rat)(i:Nat):Option Rat:=(nxE (bZ (ix g.e i)) (kE g.e i) (x i)).map λy=>y-x i
theorem Vs{W:Rat}{q r:gJ->Rat}:∀(t:List gJ) (a:gJ) (Q R:Rat),rY W q r Q R (t++[a])=rY W q r Q R t++(if Q+aK t q+q a<W/\0<R+aK t r+r a then [(W-(Q+aK t q+q a))/(R+aK t r+r a)]else [])
 |[],a,Q,R=>by show(if _ then _ else _)++[]=[]++_;simp_all[aK,cN]
 |b::t,a,Q,R=>by show(if _ then _ else _)++rY W q r _ _ (t++[a])=((if _ then _ else _)++rY W q r _ _ t)++_;rw[Vs t a,gS];have e1:aK (b::t) q=q b+aK t q:=rfl;have e2:aK (b::t) r=r b+aK t r:=rfl;rw[e1,e2,ij Q,ij R]
def XK(g:fH)(x d:Nat->Rat)(j:Nat):List Rat:=CO (oh g x) d g.e.length++((bI g).ds.take j).flatMap λd'=>rY d'.1 (gq (bI g) x) (gr (bI g) x d) 0 0 d'.2
def Fe(g:fH)(x d:Nat->Rat)(j k:Nat):List Rat:=XK g x d j++rY (dW g j) (gq (bI g) x) (gr (bI g) x d) 0 0 ((dL g j).take k)
def ahK(g:fH)(x d:Nat->Rat)(j:Nat):Fe g x d j 0=XK g x d j:=by unfold Fe;rw[cH];exact du _
def amh(g:fH)(x d:Nat->Rat){j:Nat}(h:j<g.d.length):Fe g x d j (dL g j).length=XK g x d (j+1):=by grind[Fe,XK,take_snoc,yX,Ry]
def ahL(g:fH)(x d:Nat->Rat){j k:Nat}(h:k<(dL g j).length):Fe g x d j (k+1)=Fe g x d j k++(if aK ((dL g j).take (k+1)) (gq (bI g) x)<dW g j/\0<aK ((dL g j).take (k+1)) (gr (bI g) x d)then [(dW g j-aK ((dL g j).take (k+1)) (gq (bI g) x))/aK ((dL g j).take (k+1)) (gr (bI g) x d)]else []):=by grind[Fe,take_snoc,Vs,oq]
structure NrN(D:Nat)(g:fH)(x d:Nat->Rat):Prop where
 m:XB D g x
 nn:∀i,i<g.e.length->BZ (bZ (ix g.e i))/\0<=x i
 dz:∀i,i<g.e.length->Sz (d i)
 nx:∀i,i<g.e.length->0<d i->∃S:Rat->Prop,S (x i)/\(∀m,S m->∃D,Dl D/\EOk D (kE g.e i) (bZ (ix g.e i))/\MOk D (bZ (ix g.e i)) m/\ROk D (bZ (ix g.e i)) m/\SOk (bZ (ix g.e i)) m)/\∀m t,S m->JD (bZ (ix g.e i)) m=some t->S (m+t)
 ny:∀i,i<g.e.length->0<d i->∀y,nxE (bZ (ix g.e i)) (kE g.e i) (x i)=some y->Sz y/\Sz (y-x i)/\Sz ((y-x i)/d i)
 c1:∀i,i<=g.e.length->Sz (gq0 (BI (CO (oh g x) d i)))
 c2:∀j,j<g.d.length->∀k,k<=(dL g j).length->Sz (gq0 (BI (Fe g x d j k)))/\Sz (dW g j-aK ((dL g j).take k) (gq (bI g) x))/\Sz (aK ((dL g j).take k) (gr (bI g) x d))
  /\Sz ((dW g j-aK ((dL g j).take k) (gq (bI g) x))/aK ((dL g j).take k) (gr (bI g) x d))
 c3:∀j,j<g.d.length->∀l∈dL g j,Sz (gq (bI g) x l)/\Sz (gs (bI g) x l.1 l)/\Sz (gr (bI g) x d l)
def Vt{J:St}(hW:WF J){sb:Nat}{g:fH}{x d:Nat->Rat}(hs:Gn (Lt J.aj) J.h sb g){p:Nat->Prop}{xv dvv Dv Sv:B}(hx:kX p J.h xv g.e.length x)(hd:kX p J.h dvv g.e.length d)(SX:dQ p J.h Dv g.e.length (kE g.e) (LH g x))(hSv:dQ p J.h Sv g.e.length (kE g.e) (ND g x)){D:Nat}(hN:NrN D g x d):
  aC EN 90 [.c (.ptr sb 0),.c xv,.c dvv,.agg [Dv,Sv]] J λr J'=>r=.aV (.agg (rK (gq0 (BI (kY g.e.length (bI g) (oh g x) x d))))) (.aV (.c (.bool (BI (kY g.e.length (bI g) (oh g x) x d)).isSome)) .tnil)/\Fr J J':=by
 refine aN (kF.o _ _) kF.h ?_
 unfold kF
 dsimp only
 have hs':=hs
 obtain⟨⟨ev,gv,lv,bv,hsb,hg,⟨R,P,hL1,hL2⟩,hB⟩,hsl⟩:=hs
 have hSN:=hN.m.A.s
 have hn:=hSN.n
 have hnd:=hSN.d
 have hD:=hSN.hD
 have hlk:=hL1.kn
 have hll:=hL1.len
 have hlD:=hg.d.len
 have hdk:=hg.d.kn
 have k1:=SX.kn
 have k2:=hSv.kn
 have hsl:sb<J.aj:=hsl
 have hFr:=Fr.refl hW
 simp(disch:=try exact jz)only[go_sem,k1,k2,au hsb,hll,hlk]
 refine bM.mono (Q:=λex tm J'=>ex=.exit 0/\r8 tm 0=.c (.ptr sb 0)/\r8 tm 2=.c dvv/\r8 tm 7=.c (.ptr J.aj 0)/\r8 tm 8=.c (.ptr (J.aj+1) 0)/\r8 tm 10=.c (.ptr (J.aj+1+1) 0)/\r8 tm 11=.c (.ptr (J.aj+1+1+1) 0)/\r8 tm 12=.fn 132 [.ptr (J.aj+1+1+1) 0,.ptr (J.aj+1+1) 0]
   /\J'.h J.aj=some ⟨[Dv,Sv],none⟩/\J'.h (J.aj+1)=some ⟨(rK 0),none⟩/\Ud J'.h (J.aj+1+1+1) (J.aj+1+1) (BI (CO (oh g x) d g.e.length))/\Fr J J'/\J.aj+1+1+1+1<=J'.aj)
  (aF (λq tm J'=>∃i,q=g.e.length-i/\i<=g.e.length/\r8 tm 0=.c (.ptr sb 0)/\r8 tm 1=.c xv/\r8 tm 2=.c dvv/\r8 tm 7=.c (.ptr J.aj 0)/\r8 tm 8=.c (.ptr (J.aj+1) 0)/\r8 tm 10=.c (.ptr (J.aj+1+1) 0)/\r8 tm 11=.c (.ptr (J.aj+1+1+1) 0)/\r8 tm 12=.fn 132 [.ptr (J.aj+1+1+1) 0,.ptr (J.aj+1+1) 0]
   /\r8 tm 27=.c lv/\r8 tm 28=jN g.e.length/\r8 tm 29=jN i/\J'.h J.aj=some ⟨[Dv,Sv],none⟩/\J'.h (J.aj+1)=some ⟨(rK 0),none⟩/\Ud J'.h (J.aj+1+1+1) (J.aj+1+1) (BI (CO (oh g x) d i))/\Fr J J'/\J.aj+1+1+1+1<=J'.aj) g.e.length ?_ ?_) ?_
 .refine⟨0,jb,jb,?_⟩
  refine WN ?_
  refine⟨⟨ay _ _ _,?_⟩,fr,jb⟩
  rw[ak _ _ _ _ jb,ak _ _ _ _ jb,ay]
  rfl
 .rintro q tm J' ⟨i,rfl,hi,t0,t1,t2,t7,t8,t10,t11,t12,t27,t28,t29,q7,q8,hO,hf,hnx⟩
  have hle:=hf.le
  have lT:=Fr.refl hf.wf
  refine W2 ?_
  refine aH (λhlt=>?_) (λhlt=>?_)
  .obtain⟨b5,o5,c5,rfl,-,bC⟩:=hL1.pos jb
   have hLi:=hL2 i hlt
   have hRk:=hLi.rk.kn
   have hPk:=hLi.pkn
   obtain⟨he1,he2,-,-⟩:=hSN.e i hlt
   have bC:=hf.ld hW (bC i hlt)
   obtain⟨b6,o6,c6,e6,-,bJ⟩:=aZ.at3 hd hlt
   obtain⟨b7,o7,c7,e7,-,cZ⟩:=aZ.at3 hx hlt
   have aDy:=hW.dh bJ
   have azO:=hW.dh cZ
   have bJ:=hf.ld hW bJ
   have cZ:=hf.ld hW cZ
   have a6:V.c (.sl b6 o6 g.e.length c6)=V.c dvv:=by rw[e6]
   have a7:V.c (.sl b7 o7 g.e.length c7)=V.c xv:=by rw[e7]
   rw[e6]at t2
   rw[e7]at t1
   have hb6:=hf.wf.dh bJ
   have hb7:=hf.wf.dh cZ
   have hb5:=hf.wf.dh bC
   have z1:=hN.dz i hlt
   unfold jW at bC
   by_cases hp:0<d i
   .have hl7:=hf.wf.lt q7
    obtain⟨S,s1,s2,s3⟩:=hN.nx i hlt hp
    obtain⟨n1,n2⟩:=hN.nn i hlt
    have hzO:=hN.c1 i hi
    obtain⟨Dx,-,-,zx,-,-⟩:=s2 _ s1
    have zx:=zx.hm
    simp(disch:=try exact jz)only[go_sem,W3,bC,bJ,cZ,hRk,hPk,hp]
    refine aC.st (Fr J') (fr) λdY=>?_
    have hf5:=hf.trans dY
    refine(avf dY.wf _ (bZ (ix g.e i)) ((hLi.keep (λb hb=>hf5.old b hb) λ_ h=>h).lay) (x i) n1 n2 S s1 s2 s3).mono ?_
    rintro _ σ6 ⟨⟨o,ho,rfl⟩,iD⟩
    have iR:=dY.trans iD
    have acP:=hf.trans iR
    have zC:J'.aj+1+1<=σ6.aj:=iD.le
    have hy6:σ6.h (J'.aj+1)=some ⟨(rK 0),none⟩:=iD.get dY.wf (ay _ _ _)
    have q76:=iR.get hf.wf q7
    have q86:=iR.get hf.wf q8
    have hO6:Ud σ6.h (J.aj+1+1+1) (J.aj+1+1) (BI (CO (oh g x) d i)):=⟨iR.get hf.wf hO.f,iR.get hf.wf hO.o⟩
    have azP:=iR.ld hf.wf bJ
    have azQ:=iR.ld hf.wf cZ
    have hno:=amg ho
    cases o with
    |none=>
     have hds:oh g x i=none:=by unfold oh;rw[hno];rfl
     have hcn:CO (oh g x) d (i+1)=CO (oh g x) d i:=by show _++_=_;rw[ab hp,hds,du]
     unfold ave
     simp(disch:=try exact jz)only[go_sem,W3,au hy6,hy6,aG hy6]
     have hW6:=iD.wf
     refine⟨g.e.length-(i+1),jb,i+1,rfl,jb,a7,a6,rfl,q76,q86,?_,fr,jb⟩
     rw[hcn]
     exact⟨(ak _ _ _ _ jb).trans hO6.f,(ak _ _ _ _ jb).trans hO6.o⟩
    |some y=>
     have hds:oh g x i=some (y-x i):=by unfold oh;rw[hno];rfl
     have hcn:CO (oh g x) d (i+1)=CO (oh g x) d i++[(y-x i)/d i]:=by show _++_=_;rw[ab hp,hds]
     obtain⟨y1,y2,y3⟩:=hN.ny i hlt hp y hno
     unfold ave
     simp(disch:=try exact jz)only[go_sem,W3,au hy6,hy6,aG hy6,azP,azQ]
     refine aC.st (Fr J') (by have hW6:=iD.wf;exact fr) λnS=>?_
     have hO7:Ud (hset σ6.h (J'.aj+1) ⟨(rK y),none⟩) (J.aj+1+1+1) (J.aj+1+1) (BI (CO (oh g x) d i)):=⟨(ak _ _ _ _ jb).trans hO6.f,(ak _ _ _ _ jb).trans hO6.o⟩
     refine(amf nS.wf hO7 jb y2 z1 hp y3 hzO).mono ?_
     rintro v8 σ8 ⟨hO8,uf⟩
     rw[<-Vr,<-hcn]at hO8
     have alO:σ6.aj<=σ8.aj:=uf.le
     have xQ:=aU.to (hf.trans nS) uf λb hb=>by simp at hb;omega
     have azR:=uf.ld nS.wf (by simp<;>omega) (nS.ld hf.wf bJ)
     have q78:=uf.get nS.wf (by simp<;>omega) (nS.get hf.wf q7)
     have q88:=uf.get nS.wf (by simp<;>omega) (nS.get hf.wf q8)
     simp(disch:=try exact jz)only[go_sem,W3,azR]
     exact⟨g.e.length-(i+1),jb,i+1,rfl,jb,a7,a6,rfl,q78,q88,hO8,xQ,jb⟩
   .have hcn:CO (oh g x) d (i+1)=CO (oh g x) d i:=by show _++_=_;rw[ae hp,du]
    simp(disch:=try exact jz)only[go_sem,W3,bC,bJ,hRk,hPk,hp]
    refine⟨g.e.length-(i+1),jb,i+1,rfl,jb,a7,a6,rfl,q7,q8,?_,fr,jb⟩
    rw[hcn]
    have hl7:=hf.wf.lt q7
    refine⟨?_,?_⟩
    .repeat rw[ak _ _ _ _ jb]
     exact hO.f
    .repeat rw[ak _ _ _ _ jb]
     exact hO.o
  .have:i=g.e.length:=jb
   subst this
   simp(disch:=try exact jz)only[go_sem,am]
   exact⟨t0,t2,t7,t8,t10,t11,t12,q7,q8,hO,hf,hnx⟩
 rintro _ tm σ3 ⟨rfl,t0,t2,t7,t8,t10,t11,t12,q7,q8,hO,hf3,hn3⟩
 have hle3:=hf3.le
 have alr:=hf3.get hW hsb
 have hcz:CO (oh g x) d g.e.length=XK g x d 0:=by unfold XK;rw[cH];exact(du _).symm
 rw[hcz]at hO
 simp(disch:=try exact jz)only[go_sem,W3,au alr,hlD,hdk]
 refine aF (λq tm J'=>∃j,q=g.d.length-j/\j<=g.d.length/\r8 tm 2=.c dvv/\r8 tm 7=.c (.ptr J.aj 0)/\r8 tm 8=.c (.ptr (J.aj+1) 0)/\r8 tm 10=.c (.ptr (J.aj+1+1) 0)/\r8 tm 11=.c (.ptr (J.aj+1+1+1) 0)/\r8 tm 12=.fn 132 [.ptr (J.aj+1+1+1) 0,.ptr (J.aj+1+1) 0]
   /\r8 tm 67=.c gv/\r8 tm 68=jN g.d.length/\r8 tm 69=jN j
   /\J'.h J.aj=some ⟨[Dv,Sv],none⟩/\J'.h (J.aj+1)=some ⟨(rK 0),none⟩/\Ud J'.h (J.aj+1+1+1) (J.aj+1+1) (BI (XK g x d j))/\Fr J J'/\J.aj+1+1+1+1<=J'.aj) g.d.length ?_ ?_
 .refine⟨0,jb,jb,?_⟩
  simp(disch:=try exact jz)only[go_sem,t2,t7,t8,t10,t11,t12,am]
  exact⟨q7,q8,hO,hf3,hn3⟩
 .rintro q tm J' ⟨j,rfl,hj,t2,t7,t8,t10,t11,t12,t67,t68,t69,q7,q8,hO,hf,hnx⟩
  have hle:=hf.le
  refine W2 ?_
  refine aH (λhlt=>?_) (λhlt=>?_)
  .obtain⟨b5,o5,c5,rfl,L1,bC,hL⟩:=hg.d.el hlt
   have bC:=hf.ld hW bC
   have hLk:=aZ.kn hL
   have hlL:=aZ.len hL
   obtain⟨hlen,JO⟩:=hSN.l j hlt
   obtain⟨hwf,hw0,hwz⟩:=hSN.w j hlt
   have lT:=Fr.refl hf.wf
   have hw2:=qP hwf
   have hmx:sH (rq (ix g.d j).w.n (ix g.d j).w.s (ix g.d j).w.d) 0=dW g j:=by rw[Ru];exact LD hw0
   generalize hm:(ix g.d j).l.length=m at*
   have hdl:(dL g j).length=m:=(LM g j).trans hm
   have alT:lenV (.c L1)=some (jN m):=hlL
   have hl7:=hf.wf.lt q7
   have hl8:=hf.wf.lt q8
   have hlf:=hf.wf.lt hO.f
   have hlo:=hf.wf.lt hO.o
   simp(disch:=try exact jz)only[go_sem,W3,bC,hLk,alT,hmx]
   refine bM.st (Fr J') (fr) λdY=>?_
   have hf5:=hf.trans dY
   have wu:=dY.le
   refine bM.mono (Q:=λex tm σ4=>ex=.exit 4/\r8 tm 2=.c dvv/\r8 tm 7=.c (.ptr J.aj 0)/\r8 tm 8=.c (.ptr (J.aj+1) 0)/\r8 tm 10=.c (.ptr (J.aj+1+1) 0)/\r8 tm 11=.c (.ptr (J.aj+1+1+1) 0)/\r8 tm 12=.fn 132 [.ptr (J.aj+1+1+1) 0,.ptr (J.aj+1+1) 0]
    /\r8 tm 67=.c (.sl b5 o5 g.d.length c5)/\r8 tm 68=jN g.d.length/\r8 tm 69=jN j/\σ4.h J.aj=some ⟨[Dv,Sv],none⟩/\σ4.h (J.aj+1)=some ⟨(rK 0),none⟩/\Ud σ4.h (J.aj+1+1+1) (J.aj+1+1) (BI (Fe g x d j m))/\Fr J σ4/\J.aj+1+1+1+1<=σ4.aj)
    (aF (λq tm σ4=>∃k,q=m-k/\k<=m/\r8 tm 2=.c dvv/\r8 tm 7=.c (.ptr J.aj 0)/\r8 tm 8=.c (.ptr (J.aj+1) 0)/\r8 tm 10=.c (.ptr (J.aj+1+1) 0)/\r8 tm 11=.c (.ptr (J.aj+1+1+1) 0)/\r8 tm 12=.fn 132 [.ptr (J.aj+1+1+1) 0,.ptr (J.aj+1+1) 0]
     /\r8 tm 19=.c (.ptr (J'.aj+1) 0)/\r8 tm 20=.c (.ptr (J'.aj+1+1) 0)/\r8 tm 67=.c (.sl b5 o5 g.d.length c5)/\r8 tm 68=jN g.d.length/\r8 tm 69=jN j/\r8 tm 79=.c L1/\r8 tm 80=jN m/\r8 tm 81=jN k
     /\σ4.h J.aj=some ⟨[Dv,Sv],none⟩/\σ4.h (J.aj+1)=some ⟨(rK 0),none⟩/\σ4.h (J'.aj+1)=some ⟨(rK (dW g j-aK ((dL g j).take k) (gq (bI g) x))),none⟩
     /\σ4.h (J'.aj+1+1)=some ⟨(rK (aK ((dL g j).take k) (gr (bI g) x d))),none⟩/\Ud σ4.h (J.aj+1+1+1) (J.aj+1+1) (BI (Fe g x d j k))/\Fr J σ4/\J'.aj+1+1+1<=σ4.aj) m ?_ ?_) ?_
   .refine⟨0,jb,jb,?_⟩
    simp(disch:=try exact jz)only[go_sem,W3,am,cH]
    have e1:dW g j-aK ([]:List gJ) (gq (bI g) x)=dW g j:=by show dW g j-0=dW g j;grind
    rw[e1,ahK]
    refine⟨q7,q8,rfl,rfl,⟨?_,?_⟩,hf5,jb⟩
    .repeat rw[ak _ _ _ _ jb]
     exact hO.f
    .repeat rw[ak _ _ _ _ jb]
     exact hO.o
   .rintro q YG σ4 ⟨k,rfl,hk,t2,t7,t8,t10,t11,t12,t19,t20,t67,t68,t69,t79,t80,BF,q7,q8,q19,q20,hO,hf4,hn4⟩
    simp(disch:=try exact jz)only[go_sem,W3,BF,aA]
    refine aH (λhltk=>?_) (λhltk=>?_)
    .obtain⟨b8,o8,c8,e8,-,og⟩:=aZ.pos hL (show 0<(ix g.d j).l.length by omega)
     have og:=hf4.ld hW (og k jb)
     rw[hm]at e8
     rw[e8]at t79
     have a8:V.c (.sl b8 o8 m c8)=V.c L1:=by rw[e8]
     obtain⟨e,c,Gj,he,hc⟩:=JO k hltk
     unfold NY at og
     rw[Gj]at og
     have hlk2:k<(dL g j).length:=jb
     have hix:ix (dL g j) k=(e,c):=by rw[alB (by omega:k<(ix g.d j).l.length),Gj];rfl
     have hmem:(e,c)∈dL g j:=by rw[<-hix];exact gV hlk2
     obtain⟨b9,o9,c9,T,eD,-,RH,hT⟩:=SX.at he
     obtain⟨ba,oa,ca,rfl,-,ahM⟩:=aZ.at3 hT hc
     obtain⟨bb,ob,cb,T2,eS,-,aaK,hT2⟩:=hSv.at he
     obtain⟨bc,oc,cc,rfl,-,ahN⟩:=aZ.at3 hT2 hc
     obtain⟨bd,od,cd,e6,-,ahO⟩:=aZ.at3 hd he
     have aDz:=hW.dh RH
     have aDA:=hW.dh ahM
     have aDB:=hW.dh aaK
     have aDC:=hW.dh ahN
     have hbd0:=hW.dh ahO
     have pK:=hf4.le
     have RH:=hf4.ld hW RH
     have ahM:=hf4.ld hW ahM
     have aaK:=hf4.ld hW aaK
     have ahN:=hf4.ld hW ahN
     have ahO:=hf4.ld hW ahO
     rw[eD,eS]at q7
     rw[e6]at t2
     have a6:V.c (.sl bd od g.e.length cd)=V.c dvv:=by rw[e6]
     obtain⟨w1,w2,w3,-⟩:=hN.c2 j hlt k jb
     obtain⟨v1,v2,v3,v4⟩:=hN.c2 j hlt (k+1) jb
     obtain⟨u1,u2,u3⟩:=hN.c3 j hlt _ hmem
     have u1:Sz (LH g x e c):=u1
     have u2:Sz (ND g x e c):=by have:gs (bI g) x (e,c).1 (e,c)=ND g x e c:=ab rfl;rw[<-this];exact u2
     have u3:Sz (ND g x e c*d e):=u3
     have u4:=hN.dz e he
     have s1:dW g j-aK ((dL g j).take k) (gq (bI g) x)-LH g x e c=dW g j-aK ((dL g j).take (k+1)) (gq (bI g) x):=by rw[take_snoc hlk2,oq,hix];show _-LH g x e c=_-(_+LH g x e c);grind
     have s2:aK ((dL g j).take k) (gr (bI g) x d)+ND g x e c*d e=aK ((dL g j).take (k+1)) (gr (bI g) x d):=by rw[take_snoc hlk2,oq,hix];rfl
     have hsc:=ahL g x d hlk2
     have EC:=Fr.refl hf4.wf
     generalize hA:dW g j-aK ((dL g j).take (k+1)) (gq (bI g) x)=A at*
     generalize hB:aK ((dL g j).take (k+1)) (gr (bI g) x d)=Bq at*
     have zA:=v2
     have zB:=v3
     rw[<-s1]at v2
     rw[<-s2]at v3
     have g7:∀b,b≠σ4.aj->b≠J'.aj+1->b≠J'.aj+1+1->(hset (hset (hset (hset σ4.h σ4.aj ⟨[.int .i64 (.ofNat 0),.int .i64 (.ofNat 0)],none⟩) σ4.aj ⟨[.int .i64 (.ofNat e),.int .i64 (.ofNat c)],none⟩) (J'.aj+1) ⟨(rK A),none⟩) (J'.aj+1+1) ⟨(rK Bq),none⟩) b=σ4.h b:=λb k1 k2 k3=>by rw[ak _ _ _ _ k3,ak _ _ _ _ k2,ak _ _ _ _ k1,ak _ _ _ _ k1]
     have hO7:Ud (hset (hset (hset (hset σ4.h σ4.aj ⟨[.int .i64 (.ofNat 0),.int .i64 (.ofNat 0)],none⟩) σ4.aj ⟨[.int .i64 (.ofNat e),.int .i64 (.ofNat c)],none⟩) (J'.aj+1) ⟨(rK A),none⟩) (J'.aj+1+1) ⟨(rK Bq),none⟩) (J.aj+1+1+1) (J.aj+1+1) (BI (Fe g x d j k)):=⟨(g7 _ jb jb jb).trans hO.f,(g7 _ jb jb jb).trans hO.o⟩
     by_cases h1:0<A
     .by_cases h2:0<Bq
      .simp(disch:=try exact jz)only[go_sem,W3,BF,og,RH,ahM,aaK,ahN,ahO,au q7,au q19,q19,aG q19,au q20,q20,aG q20,s1,s2,h1,h2]
       refine aC.st (Fr J) (fr) λnS=>?_
       refine(amf nS.wf hO7 jb zA zB h2 v4 w1).mono ?_
       rintro v8 σ8 ⟨hO8,uf⟩
       have hcn:Fe g x d j (k+1)=Fe g x d j k++[A/Bq]:=by rw[hsc,ab ⟨by grind,h2⟩]
       rw[<-Vr,<-hcn]at hO8
       have alO:σ4.aj+1<=σ8.aj:=uf.le
       have xQ:=aU.to nS uf λb hb=>by simp at hb;omega
       have q78:=uf.get nS.wf (by simp<;>omega) ((g7 _ jb jb jb).trans q7)
       have q88:=uf.get nS.wf (by simp<;>omega) ((g7 _ jb jb jb).trans q8)
       have aB3:=uf.get nS.wf (by simp<;>omega) ((ak _ _ _ _ (show J'.aj+1≠J'.aj+1+1 by omega)).trans (ay _ _ _))
       have aB4:=uf.get nS.wf (by simp<;>omega) (ay _ _ _)
       simp(disch:=try exact jz)only[go_sem,W3,BF]
       refine⟨m-(k+1),jb,k+1,rfl,jb,a6,a8,rfl,?_,q88,?_,?_,?_,xQ,jb⟩
       .rw[eD,eS];exact q78
       .rw[hA];exact aB3
       .rw[hB];exact aB4
       .exact hO8
      .simp(disch:=try exact jz)only[go_sem,W3,BF,og,RH,ahM,aaK,ahN,ahO,au q7,au q19,q19,aG q19,au q20,q20,aG q20,s1,s2,h1,h2]
       have hcn:Fe g x d j (k+1)=Fe g x d j k:=by rw[hsc,ae λh=>h2 h.2,du]
       refine⟨m-(k+1),jb,k+1,rfl,jb,a6,a8,rfl,?_,q8,?_,?_,?_,fr,jb⟩
       .rw[eD,eS];exact q7
       .rw[hA]
       .rw[hB]
       .rw[hcn];exact hO7
     .simp(disch:=try exact jz)only[go_sem,W3,BF,og,RH,ahM,aaK,ahN,ahO,au q7,au q19,q19,aG q19,au q20,q20,aG q20,s1,s2,h1]
      have hcn:Fe g x d j (k+1)=Fe g x d j k:=by rw[hsc,ae λh=>h1 kd,du]
      refine⟨m-(k+1),jb,k+1,rfl,jb,a6,a8,rfl,?_,q8,?_,?_,?_,fr,jb⟩
      .rw[eD,eS];exact q7
      .rw[hA]
      .rw[hB]
      .rw[hcn];exact hO7
    .have:k=m:=jb
     subst this
     simp(disch:=try exact jz)only[go_sem,am]
     exact⟨t2,t7,t8,t10,t11,t12,t67,t68,t69,q7,q8,hO,hf4,jb⟩
   .rintro _ tm σ4 ⟨rfl,t2,t7,t8,t10,t11,t12,t67,t68,t69,q7,q8,hO,hf4,hn4⟩
    rw[<-hdl,amh g x d hlt]at hO
    refine WP ?_
    exact⟨g.d.length-(j+1),jb,j+1,rfl,jb,rfl,q7,q8,hO,hf4,hn4⟩
  .have:j=g.d.length:=jb
   subst this
   have hcs:XK g x d g.d.length=kY g.e.length (bI g) (oh g x) x d:=by unfold XK kY;rw[eh (by rw[yX];exact jp)]
   rw[hcs]at hO
   have o1:=hO.f
   have o2:=hO.o
   simp(disch:=try exact jz)only[go_sem,t8,t10,t11,au o1,au o2,o1,o2,aG q8,q8]
   exact fr
def avS(g:fH)(i:Nat):Bool:=decide (0<(ix g.e i).m.q)
def ami{J:St}(hW:WF J){sb:Nat}{g:fH}(hs:Gn (Lt J.aj) J.h sb g)(hn:g.e.length<=1000)(hm:∀i,i<g.e.length->(ix g.e i).m.fits 1000000):
  aC EN 85 [.c (.ptr sb 0)] J λr J'=>(∃b,r=.c (.sl b 0 g.e.length (.ex g.e.length))/\J'.h b=some ⟨bls g.e.length (avS g),none⟩/\J.aj<=b/\b<J'.aj)/\Fr J J':=by
 refine aN (lI.o _ _) lI.h ?_
 unfold lI
 dsimp only
 obtain⟨⟨ev,gv,lv,bv,hsb,hg,⟨R,P,hL1,hL2⟩,hB⟩,hsl⟩:=hs
 have hlk:=hL1.kn
 have hll:=hL1.len
 have hlE:=hg.e.len
 have hek:=hg.e.kn
 have hsl:sb<J.aj:=hsl
 have hFr:=Fr.refl hW
 simp(disch:=try exact jz)only[go_sem,au hsb,hll,hlk,hlE,hek]
 refine aF (λq tm J'=>∃i,q=g.e.length-i/\i<=g.e.length/\r8 tm 3=.c (.sl J.aj 0 g.e.length (.ex g.e.length))/\r8 tm 16=.c ev/\r8 tm 17=jN g.e.length/\r8 tm 18=jN i
   /\J'.h J.aj=some ⟨ones g.e.length (λk=>.bool (if k<i then avS g k else false)),none⟩/\Fr J J'/\J.aj+1<=J'.aj) g.e.length ?_ ?_
 .refine⟨0,jb,jb,?_⟩
  refine WN ?_
  exact⟨bp (λl=>some (Bk.mk l none)) (dF λk _=>by rfl),fr,jb⟩
 .rintro q tm J' ⟨i,rfl,hi,t3,t16,t17,uF,q3,hf,hnx⟩
  have hle:=hf.le
  have lT:=Fr.refl hf.wf
  simp(disch:=try exact jz)only[go_sem,W3,uF,aA]
  refine aH (λhlt=>?_) (λhlt=>?_)
  .obtain⟨b5,o5,c5,rfl,C1,A1,bC,-,hC,hA1⟩:=hg.e.at hlt
   have bC:=hf.ld hW bC
   have SY:=aZ.kn hC
   have hAk:=hA1.kn
   have hw:=qP (hm i hlt)
   simp(disch:=try exact jz)only[go_sem,W3,uF,bC,SY,hAk,q3,aG q3]
   refine⟨g.e.length-(i+1),jb,i+1,rfl,jb,rfl,bp (λl=>some (Bk.mk l none)) (dF λk hk=>?_),fr,jb⟩
   unfold aJ
   by_cases e:k=i
   .rw[ab e,ab jb,e];rfl
   grind
  .have:i=g.e.length:=jb
   subst this
   simp(disch:=try exact jz)only[go_sem,t3]
   refine⟨⟨_,rfl,?_,jb,jb⟩,hf⟩
   rw[q3]
   exact bp (λl=>some (Bk.mk l none)) (dF λk hk=>by grind)
def ahP(q:Rat):decide (rs q=⟨#[]⟩)=decide (q=0):=by
 by_cases h:q=0
 .rw[aq h];exact aq (fJ.mpr h)
 .rw[af h];exact af λe=>h (fJ.mp e)
def aqt{J:St}(hW:WF J){p:Nat->Prop}{v:B}{n m:Nat}{A:Nat->Nat->Rat}(hA:dQ p J.h v n (λ_=>m) A)(hn:n<=1000){f c:Nat}(hf:f<=n)(hc:c<m):
  aC EN 212 [.c v,jN f,jN c] J λr J'=>r=.c (.int .i64 (if f+wH A c f (n-f)<n then .ofNat (f+wH A c f (n-f))else .negSucc 0))/\Fr J J':=by
 refine aN (yM.o _ _) yM.h ?_
 unfold yM
 dsimp only
 have hlen:=hA.len
 have hz:=λ(args:List V) (J:St) (K:V->St->Prop)=>lW (E:=EN) (K:=K) (gY.o args J) gY.h
 unfold gY at hz
 dsimp only at hz
 simp(disch:=try exact jz)only[go_sem,hlen]
 refine aF (λq tm J'=>∃i,q=n-i/\f<=i/\i<=n/\r8 tm 0=.c v/\r8 tm 2=jN c/\r8 tm 7=jN i/\f+wH A c f (n-f)=i+wH A c i (n-i)/\Fr J J') (n-f) ?_ ?_
 .refine⟨f,rfl,jp,hf,?_⟩
  refine WN ?_
  exact Fr.refl hW
 .rintro q tm J' ⟨i,rfl,hi1,hi,t0,t2,t7,hfs,hf'⟩
  have hFr:=Fr.refl hf'.wf
  simp(disch:=try exact jz)only[go_sem,W3,hlen,aA]
  refine aH (λhlt=>?_) (λhlt=>?_)
  .obtain⟨b6,o6,c6,T,rfl,-,bJ,hT⟩:=hA.at hlt
   obtain⟨b7,o7,c7,rfl,-,cZ⟩:=aZ.at3 hT hc
   have bJ:=hf'.ld hW bJ
   have cZ:=hf'.ld hW cZ
   have hs:n-i=(n-(i+1))+1:=jb
   have hst:wH A c i (n-i)=if A i c=0 then wH A c (i+1) (n-(i+1))+1 else 0:=by grind[wH]
   by_cases h0:A i c=0
   .simp(disch:=try exact jz)only[go_sem,W3,bJ,cZ,hz,ahP,h0,gd]
    rw[ab h0]at hst
    exact⟨n-(i+1),jb,i+1,rfl,jb,jb,rfl,jb,fr⟩
   .simp(disch:=try exact jz)only[go_sem,W3,bJ,cZ,hz,ahP,h0,decide_false]
    rw[ae h0]at hst
    rw[ab jb]
    exact⟨by grind,fr⟩
  .have:i=n:=jb
   subst this
   have:wH A c i (i-i)=0:=by rw[Nat.sub_self];rfl
   simp(disch:=try exact jz)only[go_sem,t0]
   grind
def minS(a b:Nat->Rat)(f:Rat)(j k:Nat):Rat:=if k<j then a k-f*b k else a k
def aqu{J:St}(hW:WF J){p:Nat->Prop}{ba m:Nat}{ca:Cap}{o:Option (Nat×Nat)}{a b:Nat->Rat}{bv:B}{f:Rat}(h1:J.h ba=some ⟨cO m a,o⟩)(hpl:plo o=true)(hrd:X7 o=true)(hb:kX p J.h bv m b)(hp:∀x,p x->x≠ba)(hm:m<=1000)
  (z0:Sz f) (za:∀k,k<m->Sz (a k)) (zb:∀k,k<m->Sz (b k)) (zm:∀k,k<m->Sz (f*b k)) (zs:∀k,k<m->Sz (a k-f*b k)):
  aC EN 214 [.c (.sl ba 0 m ca),.c bv,.agg (rK f)] J λ_ J'=>J'.h ba=some ⟨cO m λk=>a k-f*b k,o⟩/\aU [ba] J J':=by
 refine aN (yN.o _ _) yN.h ?_
 unfold yN
 dsimp only
 have hba:=hW.lt h1
 have hFr:=aU.refl (ex:=[ba]) hW
 have hz:=λ(args:List V) (J:St) (K:V->St->Prop)=>lW (E:=EN) (K:=K) (gY.o args J) gY.h
 unfold gY at hz
 dsimp only at hz
 refine WN ?_
 refine aF (λq tm J'=>∃j,q=m-j/\j<=m/\r8 tm 0=.c (.sl ba 0 m ca)/\r8 tm 1=.c bv/\r8 tm 5=.c (.ptr J.aj 0)/\r8 tm 8=jN m/\r8 tm 9=jN j
  /\J'.h J.aj=some ⟨(rK f),none⟩/\J'.h ba=some ⟨cO m (minS a b f j),o⟩/\aU [ba] J J'/\J.aj+1<=J'.aj) m ?_ ?_
 .refine⟨0,jb,jb,?_⟩
  simp(disch:=try exact jz)only[go_sem,am,h1]
  exact⟨bp (λl=>some (Bk.mk l o)) (dU λk _=>(ae jb).symm),by repeat(first|assumption|exact aU.refl (by assumption)|exact aU.up (by assumption) kf|exact aU.up (aU.refl (by assumption)) kf|refine aU.set1 ?_ kg kf|refine aU.jV ?_ kg|refine aU.mX ?_ kg|refine aU.nX ?_ kf),jb⟩
 .rintro q tm J' ⟨j,rfl,hj,t0,t1,t5,t8,t9,q5,q1,hf,hnx⟩
  have hle:=hf.le
  have lT:=aU.refl (ex:=[ba]) hf.wf
  refine W2 ?_
  refine aH (λhlt=>?_) (λhlt=>?_)
  .obtain⟨b7,o7,c7,rfl,hp7,cZ⟩:=aZ.at3 hb hlt
   have hne:=hp _ hp7
   have cZ:=hf.ld hW kd cZ
   have y1:=za j hlt
   have y2:=zb j hlt
   have y3:=zm j hlt
   have y4:=zs j hlt
   have e1:minS a b f j j=a j:=ae jb
   have hb7:=hf.wf.dh cZ
   have hb1:=hf.wf.lt q1
   by_cases h0:b j=0
   .simp(disch:=try exact jz)only[go_sem,W3,cZ,hz,ahP,h0,gd]
    refine⟨m-(j+1),jb,j+1,rfl,jb,rfl,q5,?_,by repeat(first|assumption|exact aU.refl (by assumption)|exact aU.up (by assumption) kf|exact aU.up (aU.refl (by assumption)) kf|refine aU.set1 ?_ kg kf|refine aU.jV ?_ kg|refine aU.mX ?_ kg|refine aU.nX ?_ kf),jb⟩
    grind[Go.Proofs.Xe.dU,Go.Proofs.Xe.minS]
   .simp(disch:=try exact jz)only[go_sem,W3,cZ,hz,ahP,h0,decide_false,au q5,au q1,q1,hrd,hpl,aG q1,e1]
    refine⟨m-(j+1),jb,j+1,rfl,jb,rfl,q5,bp (λl=>some (Bk.mk l o)) (dU λk _=>?_),by repeat(first|assumption|exact aU.refl (by assumption)|exact aU.up (by assumption) kf|exact aU.up (aU.refl (by assumption)) kf|refine aU.set1 ?_ kg kf|refine aU.jV ?_ kg|refine aU.mX ?_ kg|refine aU.nX ?_ kf),jb⟩
    grind[aJ,minS]
  .have:j=m:=jb
   subst this
   refine WN ?_
   refine⟨?_,hf⟩
   rw[q1]
   exact bp (λl=>some (Bk.mk l o)) (dU λk hk=>ab hk)
def Vu{n:Nat}(h:0<n):decide (n=0)=false:=af jb
def SC{n:Nat}(h:n<=16):decide (16<n)=false:=af jb
def aaM{J:St}(hW:WF J){p:Nat->Prop}{v:B}{n m:Nat}{A:Nat->Nat->Rat}(hA:dQ p J.h v n (λ_=>m) A)(hn:0<n)(hn2:n<=16)(hm:0<m)(hm2:m<=16):
  aC EN 187 [.c v] J λr J'=>r=jN 0/\Fr J J':=by
 refine aN (yL.o _ _) yL.h ?_
 unfold yL
 dsimp only
 have hFr:=Fr.refl hW
 have hlen:=hA.len
 obtain⟨b6,o6,c6,T,rfl,-,bJ,hT⟩:=hA.at hn
 have vg:ld J.h b6 (o6+0*1) 1 false=some (.c T):=bJ
 have hlT:=aZ.len hT
 simp(disch:=try exact jz)only[go_sem,hlen,bJ,vg,hlT,Vu hn,Vu hm]
 refine aF (λq tm J'=>∃i,q=n-i/\i<=n/\r8 tm 0=.c (.sl b6 o6 n c6)/\r8 tm 15=.c (.sl b6 o6 n c6)/\r8 tm 16=jN n/\r8 tm 17=jN i/\Fr J J') n ?_ ?_
 .refine⟨0,jb,jb,?_⟩
  refine WN ?_
  exact hFr
 .rintro q tm J' ⟨i,rfl,hi,t0,t15,t16,t17,hf⟩
  have vg:=hf.ld hW vg
  refine W2 ?_
  refine aH (λhlt=>?_) (λhlt=>?_)
  .obtain⟨b7,o7,c7,T2,e7,-,cZ,hT2⟩:=hA.at hlt
   cases e7
   have cZ:=hf.ld hW cZ
   have aB6:=aZ.len hT2
   simp(disch:=try exact jz)only[go_sem,W3,vg,cZ,hlT,aB6,FX]
   exact⟨n-(i+1),jb,i+1,rfl,jb,rfl,hf⟩
  .have:i=n:=jb
   subst this
   simp(disch:=try exact jz)only[go_sem,t0,hlen,vg,hlT,SC hn2,SC hm2,aA]
   exact hf
end Go.Proofs.Xe
end
