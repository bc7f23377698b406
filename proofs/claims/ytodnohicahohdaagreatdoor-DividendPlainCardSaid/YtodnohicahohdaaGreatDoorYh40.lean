import Derived.Test.YtodnohicahohdaaGreatDoorYh39
set_option linter.all false
set_option maxRecDepth 100000
set_option maxHeartbeats 8000000
attribute [-go_sem] Go.Proofs.Xe.azd Go.Proofs.Xe.aze Go.Proofs.Xe.azf
noncomputable section
namespace Go.Proofs.Xe
open Go.RowKit Go.Proofs.Ins
def Cb(l:List Rat):Option Rat:=l.foldl aaS none
def Vl(l:List Rat)(q:Rat):Cb (l++[q])=aaS (Cb l) q:=by grind[Cb]
def L6:∀(l:List Rat) (m:Rat),∃k,l.foldl aaS (some m)=some k/\(k=m\/k∈l)/\k<=m/\∀v∈l,k<=v
 |[],m=>⟨m,rfl,.inl rfl,aM,λv hv=>by cases hv⟩
 |a::l,m=>by
  rw[List.foldl_cons];by_cases h:a<m
  .rw[show aaS (some m) a=some a from ab h];obtain⟨k,h1,h2,h3,h4⟩:=L6 l a;grind
  .rw[show aaS (some m) a=some m from ae h];obtain⟨k,h1,h2,h3,h4⟩:=L6 l m;grind
def XZ(l:List Rat):(l=[]/\Cb l=none)\/∃m,Cb l=some m/\m∈l/\∀v∈l,m<=v:=by
 cases l with
 |nil=>exact .inl ⟨rfl,rfl⟩
 |cons a l=>
  obtain⟨k,h1,h2,h3,h4⟩:=L6 l a
  refine .inr ⟨k,h1,?_,λv hv=>?_⟩
  .grind
  grind
theorem Yp.uniq{e:fK}{n:Nat}{z x:Rat}{o o':Option Rat}(h:Yp e n z x o)(h':Yp e n z x o'):o=o':=by
 induction h with
 |no h=>cases h' with
  |no=>rfl
  |stop h2=>grind
  |go h2=>grind
 |stop h hs=>cases h' with
  |no h2=>grind
  |stop h2=>grind
  |go h2 hs2=>grind
 |go h hs _ ih=>cases h' with
  |no h2=>grind
  |stop h2 hs2=>grind
  |go h2 _ hr=>grind
open Classical in
def nxE(e:fK)(n:Nat)(x:Rat):Option Rat:=if h:∃o,Yp e n x x o then h.choose else none
def amT{e:fK}{n:Nat}{x:Rat}{o:Option Rat}(h:Yp e n x x o):nxE e n x=o:=by
 have h2:∃o,Yp e n x x o:=⟨o,h⟩
 grind[nxE,Yp.uniq]
def oh(g:dV)(x:Nat->Rat)(i:Nat):Option Rat:=(nxE (bZ (ix g.e i)) (kE g.e i) (x i)).map λy=>y-x i
theorem Vm{W:Rat}{q r:fZ->Rat}:∀(t:List fZ) (a:fZ) (Q R:Rat),sK W q r Q R (t++[a])=sK W q r Q R t++(if Q+aK t q+q a<W/\0<R+aK t r+r a then [(W-(Q+aK t q+q a))/(R+aK t r+r a)]else [])
 |[],a,Q,R=>by show(if _ then _ else _)++[]=[]++_;simp_all[aK,da]
 |b::t,a,Q,R=>by show(if _ then _ else _)++sK W q r _ _ (t++[a])=((if _ then _ else _)++sK W q r _ _ t)++_;rw[Vm t a,gd];have e1:aK (b::t) q=q b+aK t q:=rfl;have e2:aK (b::t) r=r b+aK t r:=rfl;rw[e1,e2,ij Q,ij R]
def X0(g:dV)(x d:Nat->Rat)(j:Nat):List Rat:=Dn (oh g x) d g.e.length++((bH g).ds.take j).flatMap λd'=>sK d'.1 (gq (bH g) x) (gr (bH g) x d) 0 0 d'.2
def FN(g:dV)(x d:Nat->Rat)(j k:Nat):List Rat:=X0 g x d j++sK (dW g j) (gq (bH g) x) (gr (bH g) x d) 0 0 ((dL g j).take k)
def ah9(g:dV)(x d:Nat->Rat)(j:Nat):FN g x d j 0=X0 g x d j:=by unfold FN;rw[cA];exact dc _
def amU(g:dV)(x d:Nat->Rat){j:Nat}(h:j<g.d.length):FN g x d j (dL g j).length=X0 g x d (j+1):=by grind[FN,X0,take_snoc,zL,Ru]
def aia(g:dV)(x d:Nat->Rat){j k:Nat}(h:k<(dL g j).length):FN g x d j (k+1)=FN g x d j k++(if aK ((dL g j).take (k+1)) (gq (bH g) x)<dW g j/\0<aK ((dL g j).take (k+1)) (gr (bH g) x d)then [(dW g j-aK ((dL g j).take (k+1)) (gq (bH g) x))/aK ((dL g j).take (k+1)) (gr (bH g) x d)]else []):=by grind[FN,take_snoc,Vm,ou]
structure NrN(D:Nat)(g:dV)(x d:Nat->Rat):Prop where
 m:XP D g x
 nn:∀i,i<g.e.length->CZ (bZ (ix g.e i))/\0<=x i
 dz:∀i,i<g.e.length->Sz (d i)
 nx:∀i,i<g.e.length->0<d i->∃S:Rat->Prop,S (x i)/\(∀m,S m->∃D,DW D/\EOk D (kE g.e i) (bZ (ix g.e i))/\MOk D (bZ (ix g.e i)) m/\ROk D (bZ (ix g.e i)) m/\SOk (bZ (ix g.e i)) m)/\∀m t,S m->JK (bZ (ix g.e i)) m=some t->S (m+t)
 ny:∀i,i<g.e.length->0<d i->∀y,nxE (bZ (ix g.e i)) (kE g.e i) (x i)=some y->Sz y/\Sz (y-x i)/\Sz ((y-x i)/d i)
 c1:∀i,i<=g.e.length->Sz (gq0 (Cb (Dn (oh g x) d i)))
 c2:∀j,j<g.d.length->∀k,k<=(dL g j).length->Sz (gq0 (Cb (FN g x d j k)))/\Sz (dW g j-aK ((dL g j).take k) (gq (bH g) x))/\Sz (aK ((dL g j).take k) (gr (bH g) x d))
  /\Sz ((dW g j-aK ((dL g j).take k) (gq (bH g) x))/aK ((dL g j).take k) (gr (bH g) x d))
 c3:∀j,j<g.d.length->∀l∈dL g j,Sz (gq (bH g) x l)/\Sz (gs (bH g) x l.1 l)/\Sz (gr (bH g) x d l)
def Vo{J:St}(hW:WF J){sb:Nat}{g:dV}{x d:Nat->Rat}(hs:Hf (Lt J.aj) J.h sb g){p:Nat->Prop}{xv dvv Dv Sv:B}(hx:kS p J.h xv g.e.length x)(hd:kS p J.h dvv g.e.length d)(UK:dP p J.h Dv g.e.length (kE g.e) (NM g x))(hSv:dP p J.h Sv g.e.length (kE g.e) (NR g x)){D:Nat}(hN:NrN D g x d):
  aB EN 97 [.c (.ptr sb 0),.c xv,.c dvv,.agg [Dv,Sv]] J λr J'=>r=.aU (.agg (rK (gq0 (Cb (kT g.e.length (bH g) (oh g x) x d))))) (.aU (.c (.bool (Cb (kT g.e.length (bH g) (oh g x) x d)).isSome)) .tnil)/\Fr J J':=by
 refine aI (ku.o _ _) ku.h ?_
 unfold ku
 dsimp only
 have hs':=hs
 obtain⟨⟨ev,gv,lv,bv,hsb,hg,⟨R,P,hL1,hL2⟩,hB⟩,hsl⟩:=hs
 have hSN:=hN.m.A.s
 have hn:=hSN.n
 have hnd:=hSN.d
 have hD:=hSN.hD
 have hlk:=hL1.kn
 have hll:=hL1.len
 have hlD:=hg.d.len
 have hdk:=hg.d.kn
 have k1:=UK.kn
 have k2:=hSv.kn
 have hsl:sb<J.aj:=hsl
 have hFr:=Fr.refl hW
 simp(disch:=try exact jz)only[go_sem,k1,k2,ay hsb,hll,hlk]
 refine bI.mono (Q:=λex tm J'=>ex=.exit 0/\r8 tm 0=.c (.ptr sb 0)/\r8 tm 2=.c dvv/\r8 tm 7=.c (.ptr J.aj 0)/\r8 tm 8=.c (.ptr (J.aj+1) 0)/\r8 tm 10=.c (.ptr (J.aj+1+1) 0)/\r8 tm 11=.c (.ptr (J.aj+1+1+1) 0)/\r8 tm 12=.fn 196 [.ptr (J.aj+1+1+1) 0,.ptr (J.aj+1+1) 0]
   /\J'.h J.aj=some ⟨[Dv,Sv],none⟩/\J'.h (J.aj+1)=some ⟨(rK 0),none⟩/\Ub J'.h (J.aj+1+1+1) (J.aj+1+1) (Cb (Dn (oh g x) d g.e.length))/\Fr J J'/\J.aj+1+1+1+1<=J'.aj)
  (aG (λq tm J'=>∃i,q=g.e.length-i/\i<=g.e.length/\r8 tm 0=.c (.ptr sb 0)/\r8 tm 1=.c xv/\r8 tm 2=.c dvv/\r8 tm 7=.c (.ptr J.aj 0)/\r8 tm 8=.c (.ptr (J.aj+1) 0)/\r8 tm 10=.c (.ptr (J.aj+1+1) 0)/\r8 tm 11=.c (.ptr (J.aj+1+1+1) 0)/\r8 tm 12=.fn 196 [.ptr (J.aj+1+1+1) 0,.ptr (J.aj+1+1) 0]
   /\r8 tm 27=.c lv/\r8 tm 28=jN g.e.length/\r8 tm 29=jN i/\J'.h J.aj=some ⟨[Dv,Sv],none⟩/\J'.h (J.aj+1)=some ⟨(rK 0),none⟩/\Ub J'.h (J.aj+1+1+1) (J.aj+1+1) (Cb (Dn (oh g x) d i))/\Fr J J'/\J.aj+1+1+1+1<=J'.aj) g.e.length ?_ ?_) ?_
 .refine⟨0,jb,jb,?_⟩
  refine WP ?_
  refine⟨⟨aA _ _ _,?_⟩,fr,jb⟩
  rw[au _ _ _ _ jb,au _ _ _ _ jb,aA]
  rfl
 .rintro q tm J' ⟨i,rfl,hi,t0,t1,t2,t7,t8,t10,t11,t12,t27,t28,t29,q7,q8,hO,hf,hnx⟩
  have hle:=hf.le
  have lM:=Fr.refl hf.wf
  refine W3 ?_
  refine aH (λhlt=>?_) (λhlt=>?_)
  .obtain⟨b5,o5,c5,rfl,-,bD⟩:=hL1.pos jb
   have hLi:=hL2 i hlt
   have hRk:=hLi.rk.kn
   have hPk:=hLi.pkn
   obtain⟨he1,he2,-,-⟩:=hSN.e i hlt
   have bD:=hf.ld hW (bD i hlt)
   obtain⟨b6,o6,c6,e6,-,bV⟩:=aZ.at3 hd hlt
   obtain⟨b7,o7,c7,e7,-,dB⟩:=aZ.at3 hx hlt
   have aD8:=hW.cZ bV
   have aAp:=hW.cZ dB
   have bV:=hf.ld hW bV
   have dB:=hf.ld hW dB
   have a6:V.c (.sl b6 o6 g.e.length c6)=V.c dvv:=by rw[e6]
   have a7:V.c (.sl b7 o7 g.e.length c7)=V.c xv:=by rw[e7]
   rw[e6]at t2
   rw[e7]at t1
   have hb6:=hf.wf.cZ bV
   have hb7:=hf.wf.cZ dB
   have hb5:=hf.wf.cZ bD
   have z1:=hN.dz i hlt
   unfold jU at bD
   by_cases hp:0<d i
   .have hl7:=hf.wf.lt q7
    obtain⟨S,s1,s2,s3⟩:=hN.nx i hlt hp
    obtain⟨n1,n2⟩:=hN.nn i hlt
    have hzO:=hN.c1 i hi
    obtain⟨Dx,-,-,zx,-,-⟩:=s2 _ s1
    have zx:=zx.hm
    simp(disch:=try exact jz)only[go_sem,W4,bD,bV,dB,hRk,hPk,hp]
    refine aB.st (Fr J') (fr) λeX=>?_
    have hf5:=hf.trans eX
    refine(awd eX.wf _ (bZ (ix g.e i)) ((hLi.keep (λb hb=>hf5.old b hb) λ_ h=>h).lay) (x i) n1 n2 S s1 s2 s3).mono ?_
    rintro _ σ6 ⟨⟨o,ho,rfl⟩,gX⟩
    have jO:=eX.trans gX
    have ade:=hf.trans jO
    have AZ:J'.aj+1+1<=σ6.aj:=gX.le
    have hy6:σ6.h (J'.aj+1)=some ⟨(rK 0),none⟩:=gX.get eX.wf (aA _ _ _)
    have q76:=jO.get hf.wf q7
    have q86:=jO.get hf.wf q8
    have hO6:Ub σ6.h (J.aj+1+1+1) (J.aj+1+1) (Cb (Dn (oh g x) d i)):=⟨jO.get hf.wf hO.f,jO.get hf.wf hO.o⟩
    have aAq:=jO.ld hf.wf bV
    have aAr:=jO.ld hf.wf dB
    have hno:=amT ho
    cases o with
    |none=>
     have hds:oh g x i=none:=by unfold oh;rw[hno];rfl
     have hcn:Dn (oh g x) d (i+1)=Dn (oh g x) d i:=by show _++_=_;rw[ab hp,hds,dc]
     unfold awc
     simp(disch:=try exact jz)only[go_sem,W4,ay hy6,hy6,aJ hy6]
     have hW6:=gX.wf
     refine⟨g.e.length-(i+1),jb,i+1,rfl,jb,a7,a6,rfl,q76,q86,?_,fr,jb⟩
     rw[hcn]
     exact⟨(au _ _ _ _ jb).trans hO6.f,(au _ _ _ _ jb).trans hO6.o⟩
    |some y=>
     have hds:oh g x i=some (y-x i):=by unfold oh;rw[hno];rfl
     have hcn:Dn (oh g x) d (i+1)=Dn (oh g x) d i++[(y-x i)/d i]:=by show _++_=_;rw[ab hp,hds]
     obtain⟨y1,y2,y3⟩:=hN.ny i hlt hp y hno
     unfold awc
     simp(disch:=try exact jz)only[go_sem,W4,ay hy6,hy6,aJ hy6,aAq,aAr]
     refine aB.st (Fr J') (by have hW6:=gX.wf;exact fr) λpX=>?_
     have hO7:Ub (hset σ6.h (J'.aj+1) ⟨(rK y),none⟩) (J.aj+1+1+1) (J.aj+1+1) (Cb (Dn (oh g x) d i)):=⟨(au _ _ _ _ jb).trans hO6.f,(au _ _ _ _ jb).trans hO6.o⟩
     refine(amS pX.wf hO7 jb y2 z1 hp y3 hzO).mono ?_
     rintro v8 σ8 ⟨hO8,uZ⟩
     rw[<-Vl,<-hcn]at hO8
     have amo:σ6.aj<=σ8.aj:=uZ.le
     have JC:=gY.to (hf.trans pX) uZ λb hb=>by simp at hb;omega
     have aAs:=uZ.ld pX.wf (by simp<;>omega) (pX.ld hf.wf bV)
     have q78:=uZ.get pX.wf (by simp<;>omega) (pX.get hf.wf q7)
     have q88:=uZ.get pX.wf (by simp<;>omega) (pX.get hf.wf q8)
     simp(disch:=try exact jz)only[go_sem,W4,aAs]
     exact⟨g.e.length-(i+1),jb,i+1,rfl,jb,a7,a6,rfl,q78,q88,hO8,JC,jb⟩
   .have hcn:Dn (oh g x) d (i+1)=Dn (oh g x) d i:=by show _++_=_;rw[ae hp,dc]
    simp(disch:=try exact jz)only[go_sem,W4,bD,bV,hRk,hPk,hp]
    refine⟨g.e.length-(i+1),jb,i+1,rfl,jb,a7,a6,rfl,q7,q8,?_,fr,jb⟩
    rw[hcn]
    have hl7:=hf.wf.lt q7
    refine⟨?_,?_⟩
    .repeat rw[au _ _ _ _ jb]
     exact hO.f
    .repeat rw[au _ _ _ _ jb]
     exact hO.o
  .have:i=g.e.length:=jb
   subst this
   simp(disch:=try exact jz)only[go_sem,am]
   exact⟨t0,t2,t7,t8,t10,t11,t12,q7,q8,hO,hf,hnx⟩
 rintro _ tm σ3 ⟨rfl,t0,t2,t7,t8,t10,t11,t12,q7,q8,hO,hf3,hn3⟩
 have hle3:=hf3.le
 have al6:=hf3.get hW hsb
 have hcz:Dn (oh g x) d g.e.length=X0 g x d 0:=by unfold X0;rw[cA];exact(dc _).symm
 rw[hcz]at hO
 simp(disch:=try exact jz)only[go_sem,W4,ay al6,hlD,hdk]
 refine aG (λq tm J'=>∃j,q=g.d.length-j/\j<=g.d.length/\r8 tm 2=.c dvv/\r8 tm 7=.c (.ptr J.aj 0)/\r8 tm 8=.c (.ptr (J.aj+1) 0)/\r8 tm 10=.c (.ptr (J.aj+1+1) 0)/\r8 tm 11=.c (.ptr (J.aj+1+1+1) 0)/\r8 tm 12=.fn 196 [.ptr (J.aj+1+1+1) 0,.ptr (J.aj+1+1) 0]
   /\r8 tm 67=.c gv/\r8 tm 68=jN g.d.length/\r8 tm 69=jN j
   /\J'.h J.aj=some ⟨[Dv,Sv],none⟩/\J'.h (J.aj+1)=some ⟨(rK 0),none⟩/\Ub J'.h (J.aj+1+1+1) (J.aj+1+1) (Cb (X0 g x d j))/\Fr J J'/\J.aj+1+1+1+1<=J'.aj) g.d.length ?_ ?_
 .refine⟨0,jb,jb,?_⟩
  simp(disch:=try exact jz)only[go_sem,t2,t7,t8,t10,t11,t12,am]
  exact⟨q7,q8,hO,hf3,hn3⟩
 .rintro q tm J' ⟨j,rfl,hj,t2,t7,t8,t10,t11,t12,t67,t68,t69,q7,q8,hO,hf,hnx⟩
  have hle:=hf.le
  refine W3 ?_
  refine aH (λhlt=>?_) (λhlt=>?_)
  .obtain⟨b5,o5,c5,rfl,L1,bD,hL⟩:=hg.d.el hlt
   have bD:=hf.ld hW bD
   have hLk:=aZ.kn hL
   have hlL:=aZ.len hL
   obtain⟨hlen,JX⟩:=hSN.l j hlt
   obtain⟨hwf,hw0,hwz⟩:=hSN.w j hlt
   have lM:=Fr.refl hf.wf
   have hw2:=rF hwf
   have hmx:wR (rq (ix g.d j).w.n (ix g.d j).w.s (ix g.d j).w.d) 0=dW g j:=by rw[Rn];exact LP hw0
   generalize hm:(ix g.d j).l.length=m at*
   have hdl:(dL g j).length=m:=(LV g j).trans hm
   have amv:lenV (.c L1)=some (jN m):=hlL
   have hl7:=hf.wf.lt q7
   have hl8:=hf.wf.lt q8
   have hlf:=hf.wf.lt hO.f
   have hlo:=hf.wf.lt hO.o
   simp(disch:=try exact jz)only[go_sem,W4,bD,hLk,amv,hmx]
   refine bI.st (Fr J') (fr) λeX=>?_
   have hf5:=hf.trans eX
   have vS:=eX.le
   refine bI.mono (Q:=λex tm σ4=>ex=.exit 4/\r8 tm 2=.c dvv/\r8 tm 7=.c (.ptr J.aj 0)/\r8 tm 8=.c (.ptr (J.aj+1) 0)/\r8 tm 10=.c (.ptr (J.aj+1+1) 0)/\r8 tm 11=.c (.ptr (J.aj+1+1+1) 0)/\r8 tm 12=.fn 196 [.ptr (J.aj+1+1+1) 0,.ptr (J.aj+1+1) 0]
    /\r8 tm 67=.c (.sl b5 o5 g.d.length c5)/\r8 tm 68=jN g.d.length/\r8 tm 69=jN j/\σ4.h J.aj=some ⟨[Dv,Sv],none⟩/\σ4.h (J.aj+1)=some ⟨(rK 0),none⟩/\Ub σ4.h (J.aj+1+1+1) (J.aj+1+1) (Cb (FN g x d j m))/\Fr J σ4/\J.aj+1+1+1+1<=σ4.aj)
    (aG (λq tm σ4=>∃k,q=m-k/\k<=m/\r8 tm 2=.c dvv/\r8 tm 7=.c (.ptr J.aj 0)/\r8 tm 8=.c (.ptr (J.aj+1) 0)/\r8 tm 10=.c (.ptr (J.aj+1+1) 0)/\r8 tm 11=.c (.ptr (J.aj+1+1+1) 0)/\r8 tm 12=.fn 196 [.ptr (J.aj+1+1+1) 0,.ptr (J.aj+1+1) 0]
     /\r8 tm 19=.c (.ptr (J'.aj+1) 0)/\r8 tm 20=.c (.ptr (J'.aj+1+1) 0)/\r8 tm 67=.c (.sl b5 o5 g.d.length c5)/\r8 tm 68=jN g.d.length/\r8 tm 69=jN j/\r8 tm 79=.c L1/\r8 tm 80=jN m/\r8 tm 81=jN k
     /\σ4.h J.aj=some ⟨[Dv,Sv],none⟩/\σ4.h (J.aj+1)=some ⟨(rK 0),none⟩/\σ4.h (J'.aj+1)=some ⟨(rK (dW g j-aK ((dL g j).take k) (gq (bH g) x))),none⟩
     /\σ4.h (J'.aj+1+1)=some ⟨(rK (aK ((dL g j).take k) (gr (bH g) x d))),none⟩/\Ub σ4.h (J.aj+1+1+1) (J.aj+1+1) (Cb (FN g x d j k))/\Fr J σ4/\J'.aj+1+1+1<=σ4.aj) m ?_ ?_) ?_
   .refine⟨0,jb,jb,?_⟩
    simp(disch:=try exact jz)only[go_sem,W4,am,cA]
    have e1:dW g j-aK ([]:List fZ) (gq (bH g) x)=dW g j:=by show dW g j-0=dW g j;grind
    rw[e1,ah9]
    refine⟨q7,q8,rfl,rfl,⟨?_,?_⟩,hf5,jb⟩
    .repeat rw[au _ _ _ _ jb]
     exact hO.f
    .repeat rw[au _ _ _ _ jb]
     exact hO.o
   .rintro q YV σ4 ⟨k,rfl,hk,t2,t7,t8,t10,t11,t12,t19,t20,t67,t68,t69,t79,t80,BR,q7,q8,q19,q20,hO,hf4,hn4⟩
    simp(disch:=try exact jz)only[go_sem,W4,BR,aC]
    refine aH (λhltk=>?_) (λhltk=>?_)
    .obtain⟨b8,o8,c8,e8,-,qh⟩:=aZ.pos hL (show 0<(ix g.d j).l.length by omega)
     have qh:=hf4.ld hW (qh k jb)
     rw[hm]at e8
     rw[e8]at t79
     have a8:V.c (.sl b8 o8 m c8)=V.c L1:=by rw[e8]
     obtain⟨e,c,He,he,hc⟩:=JX k hltk
     unfold Oh at qh
     rw[He]at qh
     have hlk2:k<(dL g j).length:=jb
     have hix:ix (dL g j) k=(e,c):=by rw[ame (by omega:k<(ix g.d j).l.length),He];rfl
     have hmem:(e,c)∈dL g j:=by rw[<-hix];exact gW hlk2
     obtain⟨b9,o9,c9,T,eD,-,Rz,hT⟩:=UK.at he
     obtain⟨ba,oa,ca,rfl,-,aib⟩:=aZ.at3 hT hc
     obtain⟨bb,ob,cb,T2,eS,-,aaR,hT2⟩:=hSv.at he
     obtain⟨bc,oc,cc,rfl,-,aic⟩:=aZ.at3 hT2 hc
     obtain⟨bd,od,cd,e6,-,aie⟩:=aZ.at3 hd he
     have aD9:=hW.cZ Rz
     have aEa:=hW.cZ aib
     have aEb:=hW.cZ aaR
     have aEc:=hW.cZ aic
     have hbd0:=hW.cZ aie
     have qM:=hf4.le
     have Rz:=hf4.ld hW Rz
     have aib:=hf4.ld hW aib
     have aaR:=hf4.ld hW aaR
     have aic:=hf4.ld hW aic
     have aie:=hf4.ld hW aie
     rw[eD,eS]at q7
     rw[e6]at t2
     have a6:V.c (.sl bd od g.e.length cd)=V.c dvv:=by rw[e6]
     obtain⟨w1,w2,w3,-⟩:=hN.c2 j hlt k jb
     obtain⟨v1,v2,v3,v4⟩:=hN.c2 j hlt (k+1) jb
     obtain⟨u1,u2,u3⟩:=hN.c3 j hlt _ hmem
     have u1:Sz (NM g x e c):=u1
     have u2:Sz (NR g x e c):=by have:gs (bH g) x (e,c).1 (e,c)=NR g x e c:=ab rfl;rw[<-this];exact u2
     have u3:Sz (NR g x e c*d e):=u3
     have u4:=hN.dz e he
     have s1:dW g j-aK ((dL g j).take k) (gq (bH g) x)-NM g x e c=dW g j-aK ((dL g j).take (k+1)) (gq (bH g) x):=by rw[take_snoc hlk2,ou,hix];show _-NM g x e c=_-(_+NM g x e c);grind
     have s2:aK ((dL g j).take k) (gr (bH g) x d)+NR g x e c*d e=aK ((dL g j).take (k+1)) (gr (bH g) x d):=by rw[take_snoc hlk2,ou,hix];rfl
     have hsc:=aia g x d hlk2
     have ET:=Fr.refl hf4.wf
     generalize hA:dW g j-aK ((dL g j).take (k+1)) (gq (bH g) x)=A at*
     generalize hB:aK ((dL g j).take (k+1)) (gr (bH g) x d)=Bq at*
     have zA:=v2
     have zB:=v3
     rw[<-s1]at v2
     rw[<-s2]at v3
     have g7:∀b,b≠σ4.aj->b≠J'.aj+1->b≠J'.aj+1+1->(hset (hset (hset (hset σ4.h σ4.aj ⟨[.int .i64 (.ofNat 0),.int .i64 (.ofNat 0)],none⟩) σ4.aj ⟨[.int .i64 (.ofNat e),.int .i64 (.ofNat c)],none⟩) (J'.aj+1) ⟨(rK A),none⟩) (J'.aj+1+1) ⟨(rK Bq),none⟩) b=σ4.h b:=λb k1 k2 k3=>by rw[au _ _ _ _ k3,au _ _ _ _ k2,au _ _ _ _ k1,au _ _ _ _ k1]
     have hO7:Ub (hset (hset (hset (hset σ4.h σ4.aj ⟨[.int .i64 (.ofNat 0),.int .i64 (.ofNat 0)],none⟩) σ4.aj ⟨[.int .i64 (.ofNat e),.int .i64 (.ofNat c)],none⟩) (J'.aj+1) ⟨(rK A),none⟩) (J'.aj+1+1) ⟨(rK Bq),none⟩) (J.aj+1+1+1) (J.aj+1+1) (Cb (FN g x d j k)):=⟨(g7 _ jb jb jb).trans hO.f,(g7 _ jb jb jb).trans hO.o⟩
     by_cases h1:0<A
     .by_cases h2:0<Bq
      .simp(disch:=try exact jz)only[go_sem,W4,BR,qh,Rz,aib,aaR,aic,aie,ay q7,ay q19,q19,aJ q19,ay q20,q20,aJ q20,s1,s2,h1,h2]
       refine aB.st (Fr J) (fr) λpX=>?_
       refine(amS pX.wf hO7 jb zA zB h2 v4 w1).mono ?_
       rintro v8 σ8 ⟨hO8,uZ⟩
       have hcn:FN g x d j (k+1)=FN g x d j k++[A/Bq]:=by rw[hsc,ab ⟨by grind,h2⟩]
       rw[<-Vl,<-hcn]at hO8
       have amo:σ4.aj+1<=σ8.aj:=uZ.le
       have JC:=gY.to pX uZ λb hb=>by simp at hb;omega
       have q78:=uZ.get pX.wf (by simp<;>omega) ((g7 _ jb jb jb).trans q7)
       have q88:=uZ.get pX.wf (by simp<;>omega) ((g7 _ jb jb jb).trans q8)
       have aCJ:=uZ.get pX.wf (by simp<;>omega) ((au _ _ _ _ (show J'.aj+1≠J'.aj+1+1 by omega)).trans (aA _ _ _))
       have aCK:=uZ.get pX.wf (by simp<;>omega) (aA _ _ _)
       simp(disch:=try exact jz)only[go_sem,W4,BR]
       refine⟨m-(k+1),jb,k+1,rfl,jb,a6,a8,rfl,?_,q88,?_,?_,?_,JC,jb⟩
       .rw[eD,eS];exact q78
       .rw[hA];exact aCJ
       .rw[hB];exact aCK
       .exact hO8
      .simp(disch:=try exact jz)only[go_sem,W4,BR,qh,Rz,aib,aaR,aic,aie,ay q7,ay q19,q19,aJ q19,ay q20,q20,aJ q20,s1,s2,h1,h2]
       have hcn:FN g x d j (k+1)=FN g x d j k:=by rw[hsc,ae λh=>h2 h.2,dc]
       refine⟨m-(k+1),jb,k+1,rfl,jb,a6,a8,rfl,?_,q8,?_,?_,?_,fr,jb⟩
       .rw[eD,eS];exact q7
       .rw[hA]
       .rw[hB]
       .rw[hcn];exact hO7
     .simp(disch:=try exact jz)only[go_sem,W4,BR,qh,Rz,aib,aaR,aic,aie,ay q7,ay q19,q19,aJ q19,ay q20,q20,aJ q20,s1,s2,h1]
      have hcn:FN g x d j (k+1)=FN g x d j k:=by rw[hsc,ae λh=>h1 kd,dc]
      refine⟨m-(k+1),jb,k+1,rfl,jb,a6,a8,rfl,?_,q8,?_,?_,?_,fr,jb⟩
      .rw[eD,eS];exact q7
      .rw[hA]
      .rw[hB]
      .rw[hcn];exact hO7
    .have:k=m:=jb
     subst this
     simp(disch:=try exact jz)only[go_sem,am]
     exact⟨t2,t7,t8,t10,t11,t12,t67,t68,t69,q7,q8,hO,hf4,jb⟩
   .rintro _ tm σ4 ⟨rfl,t2,t7,t8,t10,t11,t12,t67,t68,t69,q7,q8,hO,hf4,hn4⟩
    rw[<-hdl,amU g x d hlt]at hO
    refine W0 ?_
    exact⟨g.d.length-(j+1),jb,j+1,rfl,jb,rfl,q7,q8,hO,hf4,hn4⟩
  .have:j=g.d.length:=jb
   subst this
   have hcs:X0 g x d g.d.length=kT g.e.length (bH g) (oh g x) x d:=by unfold X0 kT;rw[eh (by rw[zL];exact jp)]
   rw[hcs]at hO
   have o1:=hO.f
   have o2:=hO.o
   simp(disch:=try exact jz)only[go_sem,t8,t10,t11,ay o1,ay o2,o1,o2,aJ q8,q8]
   exact fr
def awQ(g:dV)(i:Nat):Bool:=decide (0<(ix g.e i).m.q)
def amV{J:St}(hW:WF J){sb:Nat}{g:dV}(hs:Hf (Lt J.aj) J.h sb g)(hn:g.e.length<=1000)(hm:∀i,i<g.e.length->(ix g.e i).m.fits 1000000):
  aB EN 92 [.c (.ptr sb 0)] J λr J'=>(∃b,r=.c (.sl b 0 g.e.length (.ex g.e.length))/\J'.h b=some ⟨bls g.e.length (awQ g),none⟩/\J.aj<=b/\b<J'.aj)/\Fr J J':=by
 refine aI (lu.o _ _) lu.h ?_
 unfold lu
 dsimp only
 obtain⟨⟨ev,gv,lv,bv,hsb,hg,⟨R,P,hL1,hL2⟩,hB⟩,hsl⟩:=hs
 have hlk:=hL1.kn
 have hll:=hL1.len
 have hlE:=hg.e.len
 have hek:=hg.e.kn
 have hsl:sb<J.aj:=hsl
 have hFr:=Fr.refl hW
 simp(disch:=try exact jz)only[go_sem,ay hsb,hll,hlk,hlE,hek]
 refine aG (λq tm J'=>∃i,q=g.e.length-i/\i<=g.e.length/\r8 tm 3=.c (.sl J.aj 0 g.e.length (.ex g.e.length))/\r8 tm 16=.c ev/\r8 tm 17=jN g.e.length/\r8 tm 18=jN i
   /\J'.h J.aj=some ⟨ones g.e.length (λk=>.bool (if k<i then awQ g k else false)),none⟩/\Fr J J'/\J.aj+1<=J'.aj) g.e.length ?_ ?_
 .refine⟨0,jb,jb,?_⟩
  refine WP ?_
  exact⟨br (λl=>some (Bk.mk l none)) (dF λk _=>by rfl),fr,jb⟩
 .rintro q tm J' ⟨i,rfl,hi,t3,t16,t17,qV,q3,hf,hnx⟩
  have hle:=hf.le
  have lM:=Fr.refl hf.wf
  simp(disch:=try exact jz)only[go_sem,W4,qV,aC]
  refine aH (λhlt=>?_) (λhlt=>?_)
  .obtain⟨b5,o5,c5,rfl,C1,A1,bD,-,hC,hA1⟩:=hg.e.at hlt
   have bD:=hf.ld hW bD
   have Om:=aZ.kn hC
   have hAk:=hA1.kn
   have hw:=rF (hm i hlt)
   simp(disch:=try exact jz)only[go_sem,W4,qV,bD,Om,hAk,q3,aJ q3]
   refine⟨g.e.length-(i+1),jb,i+1,rfl,jb,rfl,br (λl=>some (Bk.mk l none)) (dF λk hk=>?_),fr,jb⟩
   unfold aO
   by_cases e:k=i
   .rw[ab e,ab jb,e];rfl
   grind
  .have:i=g.e.length:=jb
   subst this
   simp(disch:=try exact jz)only[go_sem,t3]
   refine⟨⟨_,rfl,?_,jb,jb⟩,hf⟩
   rw[q3]
   exact br (λl=>some (Bk.mk l none)) (dF λk hk=>by grind)
def aif(q:Rat):decide (rs q=⟨#[]⟩)=decide (q=0):=by
 by_cases h:q=0
 .rw[aw h];exact aw (kG.mpr h)
 .rw[ap h];exact ap λe=>h (kG.mp e)
def arl{J:St}(hW:WF J){p:Nat->Prop}{v:B}{n m:Nat}{A:Nat->Nat->Rat}(hA:dP p J.h v n (λ_=>m) A)(hn:n<=1000){f c:Nat}(hf:f<=n)(hc:c<m):
  aB EN 341 [.c v,jN f,jN c] J λr J'=>r=.c (.int .i64 (if f+wZ A c f (n-f)<n then .ofNat (f+wZ A c f (n-f))else .negSucc 0))/\Fr J J':=by
 refine aI (yZ.o _ _) yZ.h ?_
 unfold yZ
 dsimp only
 have hlen:=hA.len
 have hz:=λ(args:List V) (J:St) (K:V->St->Prop)=>lU (E:=EN) (K:=K) (iw.o args J) iw.h
 unfold iw at hz
 dsimp only at hz
 simp(disch:=try exact jz)only[go_sem,hlen]
 refine aG (λq tm J'=>∃i,q=n-i/\f<=i/\i<=n/\r8 tm 0=.c v/\r8 tm 2=jN c/\r8 tm 7=jN i/\f+wZ A c f (n-f)=i+wZ A c i (n-i)/\Fr J J') (n-f) ?_ ?_
 .refine⟨f,rfl,jp,hf,?_⟩
  refine WP ?_
  exact Fr.refl hW
 .rintro q tm J' ⟨i,rfl,hi1,hi,t0,t2,t7,hfs,hf'⟩
  have hFr:=Fr.refl hf'.wf
  simp(disch:=try exact jz)only[go_sem,W4,hlen,aC]
  refine aH (λhlt=>?_) (λhlt=>?_)
  .obtain⟨b6,o6,c6,T,rfl,-,bV,hT⟩:=hA.at hlt
   obtain⟨b7,o7,c7,rfl,-,dB⟩:=aZ.at3 hT hc
   have bV:=hf'.ld hW bV
   have dB:=hf'.ld hW dB
   have hs:n-i=(n-(i+1))+1:=jb
   have hst:wZ A c i (n-i)=if A i c=0 then wZ A c (i+1) (n-(i+1))+1 else 0:=by grind[wZ]
   by_cases h0:A i c=0
   .simp(disch:=try exact jz)only[go_sem,W4,bV,dB,hz,aif,h0,gh]
    rw[ab h0]at hst
    exact⟨n-(i+1),jb,i+1,rfl,jb,jb,rfl,jb,fr⟩
   .simp(disch:=try exact jz)only[go_sem,W4,bV,dB,hz,aif,h0,decide_false]
    rw[ae h0]at hst
    rw[ab jb]
    exact⟨by grind,fr⟩
  .have:i=n:=jb
   subst this
   have:wZ A c i (i-i)=0:=by rw[Nat.sub_self];rfl
   simp(disch:=try exact jz)only[go_sem,t0]
   grind
def minS(a b:Nat->Rat)(f:Rat)(j k:Nat):Rat:=if k<j then a k-f*b k else a k
def arn{J:St}(hW:WF J){p:Nat->Prop}{ba m:Nat}{ca:Cap}{o:Option (Nat×Nat)}{a b:Nat->Rat}{bv:B}{f:Rat}(h1:J.h ba=some ⟨dh m a,o⟩)(hpl:plo o=true)(hrd:Yl o=true)(hb:kS p J.h bv m b)(hp:∀x,p x->x≠ba)(hm:m<=1000)
  (z0:Sz f) (za:∀k,k<m->Sz (a k)) (zb:∀k,k<m->Sz (b k)) (zm:∀k,k<m->Sz (f*b k)) (zs:∀k,k<m->Sz (a k-f*b k)):
  aB EN 343 [.c (.sl ba 0 m ca),.c bv,.agg (rK f)] J λ_ J'=>J'.h ba=some ⟨dh m λk=>a k-f*b k,o⟩/\gY [ba] J J':=by
 refine aI (zi.o _ _) zi.h ?_
 unfold zi
 dsimp only
 have hba:=hW.lt h1
 have hFr:=gY.refl (ex:=[ba]) hW
 have hz:=λ(args:List V) (J:St) (K:V->St->Prop)=>lU (E:=EN) (K:=K) (iw.o args J) iw.h
 unfold iw at hz
 dsimp only at hz
 refine WP ?_
 refine aG (λq tm J'=>∃j,q=m-j/\j<=m/\r8 tm 0=.c (.sl ba 0 m ca)/\r8 tm 1=.c bv/\r8 tm 5=.c (.ptr J.aj 0)/\r8 tm 8=jN m/\r8 tm 9=jN j
  /\J'.h J.aj=some ⟨(rK f),none⟩/\J'.h ba=some ⟨dh m (minS a b f j),o⟩/\gY [ba] J J'/\J.aj+1<=J'.aj) m ?_ ?_
 .refine⟨0,jb,jb,?_⟩
  simp(disch:=try exact jz)only[go_sem,am,h1]
  exact⟨br (λl=>some (Bk.mk l o)) (dX λk _=>(ae jb).symm),fe,jb⟩
 .rintro q tm J' ⟨j,rfl,hj,t0,t1,t5,t8,t9,q5,q1,hf,hnx⟩
  have hle:=hf.le
  have lM:=gY.refl (ex:=[ba]) hf.wf
  refine W3 ?_
  refine aH (λhlt=>?_) (λhlt=>?_)
  .obtain⟨b7,o7,c7,rfl,hp7,dB⟩:=aZ.at3 hb hlt
   have hne:=hp _ hp7
   have dB:=hf.ld hW kd dB
   have y1:=za j hlt
   have y2:=zb j hlt
   have y3:=zm j hlt
   have y4:=zs j hlt
   have e1:minS a b f j j=a j:=ae jb
   have hb7:=hf.wf.cZ dB
   have hb1:=hf.wf.lt q1
   by_cases h0:b j=0
   .simp(disch:=try exact jz)only[go_sem,W4,dB,hz,aif,h0,gh]
    refine⟨m-(j+1),jb,j+1,rfl,jb,rfl,q5,?_,fe,jb⟩
    grind[Go.Proofs.Xe.dX,Go.Proofs.Xe.minS]
   .simp(disch:=try exact jz)only[go_sem,W4,dB,hz,aif,h0,decide_false,ay q5,ay q1,q1,hrd,hpl,aJ q1,e1]
    refine⟨m-(j+1),jb,j+1,rfl,jb,rfl,q5,br (λl=>some (Bk.mk l o)) (dX λk _=>?_),fe,jb⟩
    grind[aO,minS]
  .have:j=m:=jb
   subst this
   refine WP ?_
   refine⟨?_,hf⟩
   rw[q1]
   exact br (λl=>some (Bk.mk l o)) (dX λk hk=>ab hk)
def Vp{n:Nat}(h:0<n):decide (n=0)=false:=ap jb
def Sj{n:Nat}(h:n<=16):decide (16<n)=false:=ap jb
def aaT{J:St}(hW:WF J){p:Nat->Prop}{v:B}{n m:Nat}{A:Nat->Nat->Rat}(hA:dP p J.h v n (λ_=>m) A)(hn:0<n)(hn2:n<=16)(hm:0<m)(hm2:m<=16):
  aB EN 309 [.c v] J λr J'=>r=jN 0/\Fr J J':=by
 refine aI (yY.o _ _) yY.h ?_
 unfold yY
 dsimp only
 have hFr:=Fr.refl hW
 have hlen:=hA.len
 obtain⟨b6,o6,c6,T,rfl,-,bV,hT⟩:=hA.at hn
 have xX:ld J.h b6 (o6+0*1) 1 false=some (.c T):=bV
 have hlT:=aZ.len hT
 simp(disch:=try exact jz)only[go_sem,hlen,bV,xX,hlT,Vp hn,Vp hm]
 refine aG (λq tm J'=>∃i,q=n-i/\i<=n/\r8 tm 0=.c (.sl b6 o6 n c6)/\r8 tm 15=.c (.sl b6 o6 n c6)/\r8 tm 16=jN n/\r8 tm 17=jN i/\Fr J J') n ?_ ?_
 .refine⟨0,jb,jb,?_⟩
  refine WP ?_
  exact hFr
 .rintro q tm J' ⟨i,rfl,hi,t0,t15,t16,t17,hf⟩
  have xX:=hf.ld hW xX
  refine W3 ?_
  refine aH (λhlt=>?_) (λhlt=>?_)
  .obtain⟨b7,o7,c7,T2,e7,-,dB,hT2⟩:=hA.at hlt
   cases e7
   have dB:=hf.ld hW dB
   have aCM:=aZ.len hT2
   simp(disch:=try exact jz)only[go_sem,W4,xX,dB,hlT,aCM,U4]
   exact⟨n-(i+1),jb,i+1,rfl,jb,rfl,hf⟩
  .have:i=n:=jb
   subst this
   simp(disch:=try exact jz)only[go_sem,t0,hlen,xX,hlT,Sj hn2,Sj hm2,aC]
   exact hf
end Go.Proofs.Xe
end
