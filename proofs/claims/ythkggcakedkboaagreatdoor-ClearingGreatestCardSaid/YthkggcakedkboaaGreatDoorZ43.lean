import Derived.Test.YthkggcakedkboaaGreatDoorZ42
set_option linter.all false
set_option maxRecDepth 100000
set_option maxHeartbeats 8000000
namespace Go.Proofs.Xe
open Go.RowKit Go.Proofs.Ins
def Ew{σ:St}(hW:WF σ){p p':Nat->Prop}{av bv:B}{n:Nat}{f g:Nat->Rat}(ha:iL p σ.h av n f)(hb:iL p' σ.h bv n g)(hn:n<=1000)(hf:∀i,i<n->Sz (f i))(hg:∀i,i<n->Sz (g i)):
  aC EN 21 [.c av,.c bv] σ λr σ'=>r=.c (.bool (decide (∀i,i<n->f i<=g i)))/\Fr σ σ':=by
 refine aO (CW.o _ _) CW.h ?_
 unfold CW
 dsimp only
 have hla:=aY.len ha
 have hlb:=aY.len hb
 have hFr:=Fr.refl hW
 simp(disch:=try exact jz) only[go_sem,z3,hla,hlb]
 refine aF (λx tm σ'=>∃j,x=n-j/\j<=n/\Tr.ah tm 0=.c av/\Tr.ah tm 1=.c bv/\Tr.ah tm 7=.c (.int .i64 (.ofNat n))/\Tr.ah tm 8=.c (.int .i64 (.ofNat j))/\(∀i,i<j->f i<=g i)/\Fr σ σ') n ?_ ?_
 .refine⟨0,jb,jb,?_⟩
  simp(disch:=try exact jz) only[go_sem,z3,am]
  exact⟨λi hi=>jb,hFr⟩
 .rintro x tm σ' ⟨j,rfl,hj,t0,t1,t7,t8,hle,hF⟩
  simp(disch:=try exact jz) only[go_sem,z3,t0,t1,t7,t8,aG]
  refine aH (λhlt=>?_) (λhlt=>?_)
  .obtain⟨b5,o5,c5,rfl,-,bK⟩:=aY.at3 ha hlt
   obtain⟨b6,o6,c6,rfl,-,bW⟩:=aY.at3 hb hlt
   have bK:=hF.ld hW bK
   have bW:=hF.ld hW bW
   have jr:=Fr.refl hF.wf
   have z1:=hf j hlt
   have z2:=hg j hlt
   have hd:decide ((Int.ofNat n:Int)<=Int.ofNat j)=false:=az kd
   by_cases z3:f j<=g j
   .have hd2:decide ((Int.ofNat 0:Int)<oL (f j) (g j))=false:=az (Int.not_lt.mpr (nS.mpr z3))
    simp(disch:=try exact jz) only[go_sem,z3,t0,t1,t7,t8,hd,hd2,bK,bW,hla,hlb]
    exact⟨n-(j+1),jb,j+1,rfl,jb,rfl,λi hi=>by
     rcases Nat.lt_or_eq_of_le (Nat.le_of_lt_succ hi)with h|rfl
     .exact hle i h
     .exact z3,hF⟩
   .have hd2:decide ((Int.ofNat 0:Int)<oL (f j) (g j))=true:=bp (Int.not_le.mp λh=>z3 (nS.mp h))
    simp(disch:=try exact jz) only[go_sem,z3,t0,t1,t7,t8,hd,hd2,bK,bW,hla,hlb]
    exact⟨by rw[az λh=>z3 (h j hlt)],hF⟩
  .have:j=n:=jb
   subst this
   simp(disch:=try exact jz) only[go_sem,z3,t0,t1,hla,hlb]
   exact⟨by rw[bp hle],hF⟩
def Pq{σ:St}(hW:WF σ){nm X9 nl np nd nv:Nat}(hnm:nm<=255){cv lv pv dv vv:B}(M:Nat->Nat)(L P D:Nat->Nat->Nat)(hcv:HL σ.h 1 cv X9 λi=>[.int .u16 (.ofNat (M i))])(hM:∀i,i<X9->M i<=65535)
  (hlv:HL σ.h 4 lv nl λi=>[.int .u16 (.ofNat (L i 0)),.int .u16 (.ofNat (L i 1)),.int .u16 (.ofNat (L i 2)),.int .u16 (.ofNat (L i 3))]) (hL:∀i j,i<nl->L i j<=65535) (hnl:nl<=9223372036854775806)
  (hpv:HL σ.h 3 pv np λi=>[.int .u16 (.ofNat (P i 0)),.int .u16 (.ofNat (P i 1)),.int .u16 (.ofNat (P i 2))]) (hP:∀i j,i<np->P i j<=65535) (hnp:np<=9223372036854775806)
  (hdv:HL σ.h 3 dv nd λi=>[.int .u16 (.ofNat (D i 0)),.int .u16 (.ofNat (D i 1)),.int .u16 (.ofNat (D i 2))]) (hD:∀i j,i<nd->D i j<=65535) (hnd:nd<=9223372036854775806)
  (X:Nat->Nat) (hvv:HL σ.h 1 vv nv λi=>[.int .u16 (.ofNat (X i))]) (hX:∀i,i<nv->X i<=65535):
  aC EN 4 [.c (.int .u8 (.ofNat nm)),.c cv,.c lv,.c pv,.c dv,.c vv] σ λr _=>r=.c (.bool true):=by
 refine aO (lK.o _ _) lK.h ?_
 unfold lK
 dsimp only
 have hvk:=hvv.kn
 simp(disch:=try exact jz) only[go_sem,z3]
 refine(anc hW hnm M L P D hcv hM hlv hL hnl hpv hP hnp hdv hD hnd).mono ?_
 rintro _ σ1 ⟨eb,dv',m,cl,bs,A,al,dl,rfl,hI⟩
 have hs1:1<=1+nm%4:=jb
 have hs4:1+nm%4<=4:=jb
 generalize 1+nm%4=n at*
 have hB:=hI.bg jb hs4
 have hF1:=hI.fr
 have hg1:=hI.g.grp .opn
 have hn:=vG n m cl al dl
 have hG:=hB.yZ
 have hek:=hg1.e.kn
 have hdk:=hg1.d.kn
 have hlen:lenV (.c (.sl eb 0 n .opn))=some (.c (.int .i64 (.ofNat n))):=rfl
 have hFr:=Fr.refl hF1.wf
 simp(disch:=try exact jz) only[go_sem,z3,hek,hdk]
 refine aC.st (Fr σ1) (fr) λhF=>?_
 refine(ajm hF.wf hlen hek hdk jb X (hvv.fr hW (hF1.trans hF)) hX).mono ?_
 rintro _ σ2 ⟨⟨xb,rfl,hx⟩,hf2⟩
 have hF2:=hF.trans hf2
 have q2:=hf2.get hF.wf (aA _ _ _)
 have hx2:iL (Lt σ2.aj) σ2.h (aT n xb) n (U9 nv X):=hx.hlp jj (λ_ _=>rfl) λb _ h=>h
 have hxc:=ajn nv X
 generalize U9 nv X=x at*
 generalize aT n xb=xv at*
 have Vz:=hB.mono hxc hxc
 have hxk:=aY.kn hx2
 have hxn:∀i,i<n->0<=x i:=λi _=>(hxc i).2.1
 have XZ:=Fr.refl hf2.wf
 simp(disch:=try exact jz) only[go_sem,z3,ak q2,hek,hdk,hxk]
 refine(asF hf2.wf (hg1.fr hF1.wf hF2) hx2 (hB.map λi _=>(hxc i).sm)).mono ?_
 rintro _ σ3 ⟨⟨av,rfl,ha3⟩,hf3⟩
 have hF3:=hF2.trans hf3
 have q3:=hf3.get hf2.wf q2
 have hak:=aY.kn ha3
 have hx3:iL (Lt σ2.aj) σ3.h xv n x:=aY.fr hf2.wf hf3 hx2
 simp(disch:=try exact jz) only[go_sem,z3,ak q3,hek,hdk,hxk,hak]
 refine(Vw (g:=nG n m cl al dl) hf3.wf (hg1.fr hF1.wf hF3) hG).mono ?_
 rintro _ σ4 ⟨a,⟨rr,rfl,hV⟩,hPa,hIa,hgt,hf4⟩
 obtain⟨cm,G,Dv,Rf,Nt,Su,Re,Fu,rfl,v1,v2,v3,v4,v5,v6,v7,v8⟩:=hV
 have k1:=aY.kn v1;have k2:=v2.kn;have k3:=v3.kn;have k4:=v4.kn;have k5:=v5.kn;have k6:=aY.kn v6;have k7:=aY.kn v7;have k8:=aY.kn v8
 have oq:=hF3.trans hf4
 have q4:=hf4.get hf3.wf q3
 have Dy:=Fr.refl hf4.wf
 have hl4:σ1.aj+1<=σ4.aj:=(hf2.trans (hf3.trans hf4)).le
 simp(disch:=try exact jz) only[go_sem,z3,ak q4,q4,hek,hdk,k1,k2,k3,k4,k5,k6,k7,k8]
 refine aC.st (Fr σ4) (fr) λhFa=>?_
 have awh:=oq.trans hFa
 refine(ac4 (g:=nG n m cl al dl) hFa.wf (hg1.fr hF1.wf awh) hG).mono ?_
 rintro _ σ5 ⟨b,⟨rr,rfl,hV⟩,hPb,hIb,hls,hf5⟩
 obtain⟨cm',G',Dv',Rf',Nt',Su',Re',Fu',rfl,w1,w2,w3,w4,w5,w6,w7,w8⟩:=hV
 have j1:=aY.kn w1;have j2:=w2.kn;have j3:=w3.kn;have j4:=w4.kn;have j5:=w5.kn;have j6:=aY.kn w6;have j7:=aY.kn w7;have j8:=aY.kn w8
 have ig:=awh.trans hf5
 have q5:=(hFa.trans hf5).get hf4.wf q4
 have q15:=hf5.get hFa.wf (aA _ _ _)
 have EI:=Fr.refl hf5.wf
 rw[hn]at v1 w1
 have hl5:σ4.aj+1<=σ5.aj:=hf5.le
 have asJ:=hFa.trans hf5
 have hv5:iL (Lt σ4.aj) σ5.h cm n a:=aY.fr hf4.wf asJ (aY.keep v1 (λ_ _=>rfl) λ_ h=>h.2)
 have ha5:=aY.fr hf3.wf (hf4.trans asJ) ha3
 have hx5:=aY.fr hf3.wf (hf4.trans asJ) hx3
 obtain⟨za,-,-⟩:=hPa.sz jj be
 obtain⟨zb,-,-⟩:=hPb.sz jj be
 rw[hn]at za zb
 simp(disch:=try exact jz) only[go_sem,z3,ak q5,ak q15,q5,q15,hek,hdk,j1,j2,j3,j4,j5,j6,j7,j8,hxk,hak]
 have hgr:(∀i,i<n->x i<=DJ (nG n m cl al dl) x i)->∀i,i<n->x i<=a i:=λh i hi=>hgt.grt x (λj hj=>hxn j jb) (λj hj=>h j jb) i jb
 have hlw:(∀i,i<n->DJ (nG n m cl al dl) x i<=x i)->∀i,i<n->b i<=x i:=λh i hi=>hls.lst x (λj hj=>hxn j jb) (λj hj=>h j jb) i jb
 refine aC.st (Fr σ5) (fr) λGn=>?_
 have q5b:=Gn.get hf5.wf q5
 have axX:=Gn.get hf5.wf q15
 have asK:=aA (hset σ5.h σ5.aj ⟨[.aW,.aW,.aW,.aW,.aW,.aW,.aW,.aW],none⟩) σ5.aj ⟨[cm',G',Dv',Rf',Nt',Su',Re',Fu'],none⟩
 have hx6:=aY.fr hf5.wf Gn hx5
 have ha6:=aY.fr hf5.wf Gn ha5
 have hv6:=aY.fr hf5.wf Gn hv5
 have hw6:iL (Lt σ5.aj) _ cm' n b:=aY.fr hf5.wf Gn (aY.keep w1 (λ_ _=>rfl) λ_ h=>h.2)
 refine(Ew Gn.wf hx6 ha6 jb Vz.zx Vz.za).mono ?_
 rintro _ σ7 ⟨rfl,nH⟩
 have axW:=Fr.refl nH.wf
 have q57:=nH.get Gn.wf q5b
 have awi:=nH.get Gn.wf axX
 have ay7:=nH.get Gn.wf asK
 by_cases h1:∀i,i<n->x i<=DJ (nG n m cl al dl) x i
 .have hd1:=bp h1
  simp(disch:=try exact jz) only[go_sem,z3,hd1,ak awi,awi,k1,hxk]
  refine(Ew nH.wf (aY.fr Gn.wf nH hx6) (aY.fr Gn.wf nH hv6) jb Vz.zx za).mono ?_
  rintro _ σ8 ⟨rfl,qp⟩
  have avp:=Fr.refl qp.wf
  have hd4:=bp (hgr h1)
  simp(disch:=try exact jz) only[go_sem,z3,hd4]
  refine(ac6 qp.wf).mono ?_
  rintro _ σ9 ⟨rfl,Lj⟩
  have xM:=(nH.trans qp).trans Lj
  have q19:=xM.get Gn.wf asK
  have amB:=Fr.refl Lj.wf
  simp(disch:=try exact jz) only[go_sem,z3,hxk,hak]
  refine(Ew Lj.wf (aY.fr Gn.wf xM ha6) (aY.fr Gn.wf xM hx6) jb Vz.za Vz.zx).mono ?_
  rintro _ σA ⟨rfl,hfA⟩
  have q1A:=hfA.get Lj.wf q19
  have anP:=Fr.refl hfA.wf
  by_cases h2:∀i,i<n->DJ (nG n m cl al dl) x i<=x i
  .have hd2:=bp h2
   simp(disch:=try exact jz) only[go_sem,z3,hd2,ak q1A,q1A,j1,hxk]
   refine(Ew hfA.wf (aY.fr Gn.wf (xM.trans hfA) hw6) (aY.fr Gn.wf (xM.trans hfA) hx6) jb zb Vz.zx).mono ?_
   rintro _ σB ⟨rfl,hfB⟩
   have hd3:=bp (hlw h2)
   simp(disch:=try exact jz) only[go_sem,z3,hd3]
  .have hd2:=az h2
   simp(disch:=try exact jz) only[go_sem,z3,hd2]
 .have hd1:=az h1
  simp(disch:=try exact jz) only[go_sem,z3,hd1]
  refine(ac6 nH.wf).mono ?_
  rintro _ σ9 ⟨rfl,Lj⟩
  have xM:=nH.trans Lj
  have q19:=xM.get Gn.wf asK
  have amB:=Fr.refl Lj.wf
  simp(disch:=try exact jz) only[go_sem,z3,hxk,hak]
  refine(Ew Lj.wf (aY.fr Gn.wf xM ha6) (aY.fr Gn.wf xM hx6) jb Vz.za Vz.zx).mono ?_
  rintro _ σA ⟨rfl,hfA⟩
  have q1A:=hfA.get Lj.wf q19
  have anP:=Fr.refl hfA.wf
  by_cases h2:∀i,i<n->DJ (nG n m cl al dl) x i<=x i
  .have hd2:=bp h2
   simp(disch:=try exact jz) only[go_sem,z3,hd2,ak q1A,q1A,j1,hxk]
   refine(Ew hfA.wf (aY.fr Gn.wf (xM.trans hfA) hw6) (aY.fr Gn.wf (xM.trans hfA) hx6) jb zb Vz.zx).mono ?_
   rintro _ σB ⟨rfl,hfB⟩
   have hd3:=bp (hlw h2)
   simp(disch:=try exact jz) only[go_sem,z3,hd3]
  .have hd2:=az h2
   simp(disch:=try exact jz) only[go_sem,z3,hd2]
def VA{W:World}{nm:Nat}{v2 v3 v4 v5 v6:Value}(hnm:nm<=255){n2 n3 n4 n5 n6:Nat}{M:Nat->Nat}{L P D:Nat->Nat->Nat}(h2:HL (St.of W).h 1 (xY W.heap.size v2) n2 λi=>[.int .u16 (.ofNat (M i))])(hM:∀i,i<n2->M i<=65535)
  (h3:HL (St.of W).h 4 (xY W.heap.size v3) n3 λi=>[.int .u16 (.ofNat (L i 0)),.int .u16 (.ofNat (L i 1)),.int .u16 (.ofNat (L i 2)),.int .u16 (.ofNat (L i 3))]) (hL:∀i j,i<n3->L i j<=65535) (hn3:n3<=140737488351232)
  (h4:HL (St.of W).h 3 (xY W.heap.size v4) n4 λi=>[.int .u16 (.ofNat (P i 0)),.int .u16 (.ofNat (P i 1)),.int .u16 (.ofNat (P i 2))]) (hP:∀i j,i<n4->P i j<=65535) (hn4:n4<=140737488351232)
  (h5:HL (St.of W).h 3 (xY W.heap.size v5) n5 λi=>[.int .u16 (.ofNat (D i 0)),.int .u16 (.ofNat (D i 1)),.int .u16 (.ofNat (D i 2))]) (hD:∀i j,i<n5->D i j<=65535) (hn5:n5<=140737488351232)
  {X:Nat->Nat}(h6:HL (St.of W).h 1 (xY W.heap.size v6) n6 λi=>[.int .u16 (.ofNat (X i))]) (hX:∀i,i<n6->X i<=65535):
  Calls Tryz.prog 4 #[.int .u8 (nm:Int),v2,v3,v4,v5,v6] W λe w'=>e=.returned (.bool true)/\Below W.heap.size W w':=
 aq4 (Pq (WF.of W) hnm M L P D h2 hM h3 hL jb h4 hP jb h5 hD jb X h6 hX) ⟨rfl,Ec _ _ h2.kn,Ec _ _ h3.kn,Ec _ _ h4.kn,Ec _ _ h5.kn,Ec _ _ h6.kn,trivial⟩
end Go.Proofs.Xe
namespace Go.Proofs.Xe
open Go Go.RowKit Go.ChangeShapes Go.WideShapes Go.ChangeAt Go.Proofs.Ins Go.Proofs.YthkggcakedkboaaGreatDoor
theorem greatest_lifted(os:Os)(started:os.Started)(H:Type)(enc:TypeId×Value->H):
  ReturnsInHanded {} Tryz.checked os 4 .any (λw args=>(Rows.clearingGreatestSpec.pre enc Tryz.prog Tryz.f4 [] false w args/\laidMetH Tryz.prog aa9 w)/\sizedMet enc Tryz.prog Tryz.f4 (OpenSpec.ofChange Rows.clearingGreatestSpec) false w args)
   (Rows.clearingGreatestSpec.post enc Tryz.prog Tryz.f4 false true false false):=by
 refine returnsInHanded_of_change_and (C:=Tryz.checked) (X:=λw _=>laidMetH Tryz.prog aa9 w) (λ_ _ _ hh h=>h.of_heap hh) own' started (by kernel_rfl) Tryz.func4
  (ChangeSpec.witness_shaped (enc:=enc) (C:=Tryz.checked) (os:=os) (X:=λw _=>laidMetH Tryz.prog aa9 w) false (World.laidAll Tryz.prog os aa9) #[.int .u8 0,.slice none 0 0,.slice none 0 0,.slice none 0 0,.slice none 0 0,.slice none 0 0] 8 (World.laidAll_os _ _ _)
   (World.shaped_of_ZipB (by kernel_rfl) (by kernel_rfl)) (by kernel_rfl) (by kernel_rfl) (by kernel_rfl)
   (by rw[MakeChecks.laidMetH_plain _ _ _ (by kernel_rfl)];exact laidMet_laidAll _ (by kernel_rfl) (by kernel_rfl))) ?_
 intro W base args ds gs before hval0 hW hc hsz hL _
 have hval:∀(j:Nat) t v,Tryz.f4.params[j]?=some t->args[j]?=some v->Value.okWide Tryz.prog W .any base t v:=hval0
 have hW':=hW
 obtain⟨p,q,hA0,hV,rfl,_,_⟩:=hW
 have hA:DataW.TrodAll enc Tryz.prog W 0 (λ_=>true) true Tryz.f4.params.toList args.toList ds p:=hA0
 have hsz1:(DataW.weightsEach Tryz.prog (Tryz.f4.params.toList++Rows.clearingGreatestSpec.plain.varTypes Tryz.prog) (ds++gs)).all (·<=reachBytes)=true:=hsz
 obtain⟨rfl,rfl⟩:=trodVars_none hV
 rw[Tryz.params4]at hsz1 hval hA
 clear hA0 hval0 hsz hc hL hV
 obtain⟨v1,vs1,d1,ds1,p1,q1,e1,rfl,rfl,h1,hA⟩:=trodAll_cons hA
 obtain⟨v2,vs2,d2,ds2,p2,q2,rfl,rfl,rfl,h2,hA⟩:=trodAll_cons hA
 obtain⟨v3,vs3,d3,ds3,p3,q3,rfl,rfl,rfl,h3,hA⟩:=trodAll_cons hA
 obtain⟨v4,vs4,d4,ds4,p4,q4,rfl,rfl,rfl,h4,hA⟩:=trodAll_cons hA
 obtain⟨v5,vs5,d5,ds5,p5,q5,rfl,rfl,rfl,h5,hA⟩:=trodAll_cons hA
 obtain⟨v6,vs6,d6,ds6,p6,q6,rfl,rfl,rfl,h6,hA⟩:=trodAll_cons hA
 obtain⟨rfl,rfl,rfl⟩:=trodAll_nil hA
 obtain rfl:args= #[v1,v2,v3,v4,v5,v6]:=by rw[<-Array.toArray_toList (xs:=args),e1]
 clear hA e1
 obtain⟨D1,rfl,b1⟩:=awr (hval 0 _ _ rfl rfl) h1
 obtain⟨a2,n2,c2,f2,rfl,o2⟩:=zi Tryz.underlying22 (hval 1 _ _ rfl rfl) h2
 obtain⟨w2,m2,D2,e2,l2,s2,b2⟩:=ahc o2 (y9 hsz1 (j:=1) rfl rfl)
 obtain rfl:w2=.slice a2 n2 c2:=by simpa using e2.symm
 obtain⟨a3,n3,c3,f3,rfl,o3⟩:=zi Tryz.underlying23 (hval 2 _ _ rfl rfl) h3
 obtain⟨w3,m3,D3,e3,l3,s3,b3⟩:=aqN o3 (y9 hsz1 (j:=2) rfl rfl)
 obtain rfl:w3=.slice a3 n3 c3:=by simpa using e3.symm
 obtain⟨a4,n4,c4,f4,rfl,o4⟩:=zi Tryz.underlying24 (hval 3 _ _ rfl rfl) h4
 obtain⟨w4,m4,D4,e4,l4,s4,b4⟩:=abx o4 (y9 hsz1 (j:=3) rfl rfl)
 obtain rfl:w4=.slice a4 n4 c4:=by simpa using e4.symm
 obtain⟨a5,n5,c5,f5,rfl,o5⟩:=zi Tryz.underlying24 (hval 4 _ _ rfl rfl) h5
 obtain⟨w5,m5,D5,e5,l5,s5,b5⟩:=abx o5 (y9 hsz1 (j:=4) rfl rfl)
 obtain rfl:w5=.slice a5 n5 c5:=by simpa using e5.symm
 obtain⟨a6,n6,c6,f6,rfl,o6⟩:=zi Tryz.underlying22 (hval 5 _ _ rfl rfl) h6
 obtain⟨w6,m6,D6,e6,l6,s6,b6⟩:=ahc o6 (y9 hsz1 (j:=5) rfl rfl)
 obtain rfl:w6=.slice a6 n6 c6:=by simpa using e6.symm
 exact afG rfl rfl rfl (by kernel_rfl) hW' (VA b1 s2 b2 s3 b3 l3 s4 b4 l4 s5 b5 l5 s6 b6)
end Go.Proofs.Xe
