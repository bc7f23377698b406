import Derived.Test.YthkggcakedkboaaGreatDoorZ42
set_option linter.all false
set_option maxRecDepth 100000
set_option maxHeartbeats 8000000
namespace Go.Proofs.Xe
open Go.RowKit Go.Proofs.Ins
def OV{σ:St}(hW:WF σ){p p':Nat->Prop}{av bv:B}{n:Nat}{f g:Nat->Rat}(ha:iL p σ.h av n f)(hb:iL p' σ.h bv n g)(hn:n<=1000)(he:∀i,i<n->f i=g i):
  aC EN 19 [.c av,.c bv] σ λr σ'=>r=.c (.bool true)/\Fr σ σ':=by
 refine aO (yJ.o _ _) yJ.h ?_
 unfold yJ
 dsimp only
 have hla:=aY.len ha
 have hlb:=aY.len hb
 have hka:=aY.kn ha
 have hkb:=aY.kn hb
 have hFr:=Fr.refl hW
 have hd0:decide (Int.ofNat n=Int.ofNat n)=true:=bw rfl
 simp(disch:=try exact jz) only[go_sem,z3,hla,hlb,hd0]
 refine aF (λx tm σ'=>∃j,x=n-j/\j<=n/\Tr.ah tm 0=.c av/\Tr.ah tm 1=.c bv/\Tr.ah tm 5=.c (.int .i64 (.ofNat j))/\Fr σ σ') n ?_ ?_
 .refine⟨0,jb,jb,?_⟩
  simp(disch:=try exact jz) only[go_sem,z3,am]
  exact hFr
 .rintro x tm σ' ⟨j,rfl,hj,t0,t1,t5,hF⟩
  simp(disch:=try exact jz) only[go_sem,z3,t0,t1,t5,hla,aG]
  refine aH (λhlt=>?_) (λhlt=>?_)
  .obtain⟨b5,o5,c5,rfl,-,bF⟩:=aY.at3 ha hlt
   obtain⟨b6,o6,c6,rfl,-,bW⟩:=aY.at3 hb hlt
   have bF:=hF.ld hW bF
   have bW:=hF.ld hW bW
   have hq:decide (f j=g j)=true:=bw (he j hlt)
   have jA:=Fr.refl hF.wf
   simp(disch:=try exact jz) only[go_sem,z3,t0,t1,t5,bF,bW,hq]
   exact⟨n-(j+1),jb,j+1,rfl,jb,rfl,hF⟩
  .simp(disch:=try exact jz) only[go_sem,z3,am]
   exact hF
def J9{σ:St}(hW:WF σ){nm XT nl np nd:Nat}(hnm:nm<=255){cv lv pv dv:B}(M:Nat->Nat)(L P D:Nat->Nat->Nat)(hcv:HL σ.h 1 cv XT λi=>[.int .u16 (.ofNat (M i))])(hM:∀i,i<XT->M i<=65535)
  (hlv:HL σ.h 4 lv nl λi=>[.int .u16 (.ofNat (L i 0)),.int .u16 (.ofNat (L i 1)),.int .u16 (.ofNat (L i 2)),.int .u16 (.ofNat (L i 3))]) (hL:∀i j,i<nl->L i j<=65535) (hnl:nl<=9223372036854775806)
  (hpv:HL σ.h 3 pv np λi=>[.int .u16 (.ofNat (P i 0)),.int .u16 (.ofNat (P i 1)),.int .u16 (.ofNat (P i 2))]) (hP:∀i j,i<np->P i j<=65535) (hnp:np<=9223372036854775806)
  (hdv:HL σ.h 3 dv nd λi=>[.int .u16 (.ofNat (D i 0)),.int .u16 (.ofNat (D i 1)),.int .u16 (.ofNat (D i 2))]) (hD:∀i j,i<nd->D i j<=65535) (hnd:nd<=9223372036854775806):
  aC EN 3 [.c (.int .u8 (.ofNat nm)),.c cv,.c lv,.c pv,.c dv] σ λr _=>r=.c (.bool true):=by
 refine aO (kJ.o _ _) kJ.h ?_
 unfold kJ
 dsimp only
 simp(disch:=try exact jz) only[go_sem,z3]
 refine(amV hW hnm M L P D hcv hM hlv hL hnl hpv hP hnp hdv hD hnd).mono ?_
 rintro _ σ1 ⟨eb,dv',m,cl,bs,A,al,dl,rfl,hI⟩
 have hs1:1<=1+nm%4:=jb
 have hs4:1+nm%4<=4:=jb
 generalize 1+nm%4=n at*
 have hB:=hI.bg jb hs4
 have hF1:=hI.fr
 have hg1:=hI.g.grp .opn
 have hn:=yQ n m cl al dl
 have hG:=hB.yU
 have hek:=hg1.e.kn
 have hdk:=hg1.d.kn
 have hFr:=Fr.refl hF1.wf
 simp(disch:=try exact jz) only[go_sem,z3,hek,hdk]
 refine aC.st (Fr σ1) (fr) λhF=>?_
 refine(Vh (g:=OY n m cl al dl) hF.wf (hg1.fr hF1.wf hF) hG).mono ?_
 rintro _ σ2 ⟨x,⟨rr,rfl,hV⟩,hPx,hIx,hgt,hf2⟩
 obtain⟨cm,G,Dv,Rf,Nt,Su,Re,Fu,rfl,v1,v2,v3,v4,v5,v6,v7,v8⟩:=hV
 have k1:=aY.kn v1;have k2:=v2.kn;have k3:=v3.kn;have k4:=v4.kn;have k5:=v5.kn;have k6:=aY.kn v6;have k7:=aY.kn v7;have k8:=aY.kn v8
 have hF2:=hF.trans hf2
 have q2:=hf2.get hF.wf (aA _ _ _)
 have XI:=Fr.refl hf2.wf
 have hl2:=hF2.le
 have axM:σ1.aj+1<=σ2.aj:=hf2.le
 simp(disch:=try exact jz) only[go_sem,z3,ak q2,q2,hek,hdk,k1,k2,k3,k4,k5,k6,k7,k8]
 refine aC.st (Fr σ2) (fr) λhFa=>?_
 have av1:=hF2.trans hFa
 refine(acL (g:=OY n m cl al dl) hFa.wf (hg1.fr hF1.wf av1) hG).mono ?_
 rintro _ σ3 ⟨y,⟨rr,rfl,hV⟩,hPy,hIy,hls,hf3⟩
 obtain⟨cm',G',Dv',Rf',Nt',Su',Re',Fu',rfl,w1,w2,w3,w4,w5,w6,w7,w8⟩:=hV
 have j1:=aY.kn w1;have j2:=w2.kn;have j3:=w3.kn;have j4:=w4.kn;have j5:=w5.kn;have j6:=aY.kn w6;have j7:=aY.kn w7;have j8:=aY.kn w8
 have hF3:=av1.trans hf3
 have q3:=(hFa.trans hf3).get hf2.wf q2
 have q12:=hf3.get hFa.wf (aA _ _ _)
 have aia:=Fr.refl hf3.wf
 rw[hn]at v1 w1
 have hlx:=aY.len v1
 have hly:=aY.len w1
 have hd0:decide (Int.ofNat n=Int.ofNat n)=true:=bw rfl
 have hl3:σ2.aj+1<=σ3.aj:=hf3.le
 have ay2:σ1.aj<σ2.aj:=axM
 have hlG:lenV (.c (.sl eb 0 n .opn))=some (.c (.int .i64 (.ofNat n))):=rfl
 simp(disch:=try exact jz) only[go_sem,z3,ak q3,ak q12,q3,q12,hek,hdk,k1,j1,j2,j3,j4,j5,j6,j7,j8,hlx,hly,hd0]
 refine aC.st (Fr σ3) (fr) λPS=>?_
 have av2:=hF3.trans PS
 obtain⟨Dx,hMx⟩:=hPx.map hG
 obtain⟨Dy,hMy⟩:=hPy.map hG
 have axN:=hFa.trans (hf3.trans PS)
 have hv1:iL (Lt σ2.aj) _ cm n x:=aY.fr hf2.wf axN v1
 have hw1:iL (Lt σ3.aj) _ cm' n y:=aY.fr hf3.wf PS w1
 have q3b:=PS.get hf3.wf q3
 have axO:=PS.get hf3.wf q12
 have axP:=aA (hset σ3.h σ3.aj ⟨[.aV,.aV,.aV,.aV,.aV,.aV,.aV,.aV],none⟩) σ3.aj ⟨[cm',G',Dv',Rf',Nt',Su',Re',Fu'],none⟩
 refine(ajS PS.wf (hg1.fr hF1.wf av2) hv1 hMx).mono ?_
 rintro _ σ4 ⟨⟨av,rfl,ha4⟩,hf4⟩
 have nT:=av2.trans hf4
 have hak:=aY.kn ha4
 have q34:=hf4.get PS.wf q3b
 have axQ:=hf4.get PS.wf axO
 have asv:=hf4.get PS.wf axP
 have hl4:σ3.aj+1<=σ4.aj:=hf4.le
 simp(disch:=try exact jz) only[go_sem,z3,ak q34,ak asv,q34,asv,hek,hdk,hak,j1]
 refine(ajS hf4.wf (hg1.fr hF1.wf nT) (aY.fr PS.wf hf4 hw1) hMy).mono ?_
 rintro _ σ5 ⟨⟨bv,rfl,hb5⟩,hf5⟩
 have ig:=nT.trans hf5
 have hbk:=aY.kn hb5
 have ay3:=PS.trans (hf4.trans hf5)
 have anB:=hf5.get hf4.wf axQ
 have av3:=hf5.get hf4.wf asv
 have hv5:iL (Lt _) σ5.h cm n x:=aY.fr PS.wf (hf4.trans hf5) hv1
 have hw5:iL (Lt _) σ5.h cm' n y:=aY.fr PS.wf (hf4.trans hf5) hw1
 have ha5:=aY.fr hf4.wf hf5 ha4
 have Dn:=Fr.refl hf5.wf
 obtain⟨zx,-,-⟩:=hPx.sz jj be
 obtain⟨zy,-,-⟩:=hPy.sz jj be
 rw[hn]at zx zy
 have hyx:∀i,i<n->y i<=x i:=λi hi=>by have hi':i<(OY n m cl al dl).e.length:=jb;exact hgt.grt y hls.nn (λj hj=>by rw[<-hls.fix j hj];simp) i hi'
 have hy0:∀i,i<n->0<=y i:=λi hi=>hls.nn i jb
 have hfx:∀i,i<n->amW (OY n m cl al dl) x i=x i:=λi hi=>(hgt.fix i jb).symm
 have hfy:∀i,i<n->amW (OY n m cl al dl) y i=y i:=λi hi=>(hls.fix i jb).symm
 simp(disch:=try exact jz) only[go_sem,z3,ak anB,anB,k1,hlx,hbk,hak]
 refine bH.mono (Q:=λe tm σ'=>e=.exit 0/\Tr.ah tm 12=.c (.ptr σ2.aj 0)/\Tr.ah tm 14=.c (.ptr σ3.aj 0)/\Tr.ah tm 16=.c av/\Tr.ah tm 18=.c bv/\Fr σ5 σ')
  (aF (λq tm σ'=>∃j,q=n-j/\j<=n/\Tr.ah tm 12=.c (.ptr σ2.aj 0)/\Tr.ah tm 14=.c (.ptr σ3.aj 0)/\Tr.ah tm 16=.c av/\Tr.ah tm 18=.c bv/\Tr.ah tm 77=.c (.int .i64 (.ofNat n))/\Tr.ah tm 78=.c (.int .i64 (.ofNat j))/\Fr σ5 σ') n ?_ ?_) ?_
 .refine⟨0,jb,jb,?_⟩
  simp(disch:=try exact jz) only[go_sem,z3,am]
  exact Dn
 .rintro q tm σ' ⟨j,rfl,hj,t12,t14,t16,ng,t77,t78,hf⟩
  have av4:=hf.get hf5.wf anB
  have aev:=hf.get hf5.wf av3
  simp(disch:=try exact jz) only[go_sem,z3,t12,t14,t16,ng,t77,t78,aG]
  refine aH (λhlt=>?_) (λhlt=>?_)
  .obtain⟨b5,o5,c5,rfl,-,bF⟩:=aY.at3 hv5 hlt
   obtain⟨b6,o6,c6,rfl,-,bW⟩:=aY.at3 hw5 hlt
   have bF:=hf.ld hf5.wf bF
   have bW:=hf.ld hf5.wf bW
   have z1:=zx j hlt
   have z2:=zy j hlt
   have hc1:decide (oO (x j) (y j)<Int.ofNat 0)=false:=by rw[U2];exact az (gR.mpr (hyx j hlt))
   have hc2:decide (sg (y j)<Int.ofNat 0)=false:=az (Dt (hy0 j hlt))
   have jA:=Fr.refl hf.wf
   simp(disch:=try exact jz) only[go_sem,z3,t12,t14,t16,ng,t77,t78,ak av4,ak aev,av4,aev,k1,j1,bF,bW,hc1,hc2]
   exact⟨n-(j+1),jb,j+1,rfl,jb,rfl,hf⟩
  .simp(disch:=try exact jz) only[go_sem,z3,am]
   exact⟨t12,t14,t16,ng,hf⟩
 .rintro _ tm σ6 ⟨rfl,t12,t14,t16,ng,fP⟩
  simp(disch:=try exact jz) only[go_sem,z3,t12,t14,t16,ng]
  refine(anz fP.wf).mono ?_
  rintro _ σ6 ⟨rfl,hfw⟩
  have fP:=fP.trans hfw
  have av5:=fP.get hf5.wf anB
  have axR:=fP.get hf5.wf av3
  have arI:=Fr.refl fP.wf
  simp(disch:=try exact jz) only[go_sem,z3,t12,t14,t16,ng,ak av5,av5,k1,hak]
  refine(OV fP.wf (aY.fr hf5.wf fP ha5) (aY.fr hf5.wf fP hv5) jb hfx).mono ?_
  rintro _ σ7 ⟨rfl,nY⟩
  have av6:=nY.get fP.wf axR
  have axL:=Fr.refl nY.wf
  simp(disch:=try exact jz) only[go_sem,z3,t12,t14,t16,ng,ak av6,av6,j1,hbk]
  refine(OV nY.wf (aY.fr fP.wf nY (aY.fr hf5.wf fP hb5)) (aY.fr fP.wf nY (aY.fr hf5.wf fP hw5)) jb hfy).mono ?_
  rintro _ σ8 ⟨rfl,qU⟩
  simp(disch:=try exact jz) only[go_sem,z3]
def PY{W:World}{nm:Nat}{v2 v3 v4 v5:Value}(hnm:nm<=255){n2 n3 n4 n5:Nat}{M:Nat->Nat}{L P D:Nat->Nat->Nat}(h2:HL (St.of W).h 1 (yI W.heap.size v2) n2 λi=>[.int .u16 (.ofNat (M i))])(hM:∀i,i<n2->M i<=65535)
  (h3:HL (St.of W).h 4 (yI W.heap.size v3) n3 λi=>[.int .u16 (.ofNat (L i 0)),.int .u16 (.ofNat (L i 1)),.int .u16 (.ofNat (L i 2)),.int .u16 (.ofNat (L i 3))]) (hL:∀i j,i<n3->L i j<=65535) (hn3:n3<=140737488351232)
  (h4:HL (St.of W).h 3 (yI W.heap.size v4) n4 λi=>[.int .u16 (.ofNat (P i 0)),.int .u16 (.ofNat (P i 1)),.int .u16 (.ofNat (P i 2))]) (hP:∀i j,i<n4->P i j<=65535) (hn4:n4<=140737488351232)
  (h5:HL (St.of W).h 3 (yI W.heap.size v5) n5 λi=>[.int .u16 (.ofNat (D i 0)),.int .u16 (.ofNat (D i 1)),.int .u16 (.ofNat (D i 2))]) (hD:∀i j,i<n5->D i j<=65535) (hn5:n5<=140737488351232):
  Calls Tryz.prog 3 #[.int .u8 (nm:Int),v2,v3,v4,v5] W λe w'=>e=.returned (.bool true)/\Below W.heap.size W w':=
 aqQ (J9 (WF.of W) hnm M L P D h2 hM h3 hL jb h4 hP jb h5 hD jb) ⟨rfl,GY _ _ h2.kn,GY _ _ h3.kn,GY _ _ h4.kn,GY _ _ h5.kn,trivial⟩
end Go.Proofs.Xe
namespace Go.Proofs.Xe
open Go Go.RowKit Go.ChangeShapes Go.WideShapes Go.ChangeAt Go.Proofs.Ins Go.Proofs.YthkggcakedkboaaGreatDoor
theorem fixpoints_lifted(os:Os)(started:os.Started)(H:Type)(enc:TypeId×Value->H):
  ReturnsInHanded {} Tryz.checked os 3 .any (λw args=>(Rows.clearingFixpointsSpec.pre enc Tryz.prog Tryz.f3 [] false w args/\laidMetH Tryz.prog aaX w)/\sizedMet enc Tryz.prog Tryz.f3 (OpenSpec.ofChange Rows.clearingFixpointsSpec) false w args)
   (Rows.clearingFixpointsSpec.post enc Tryz.prog Tryz.f3 false true false false):=by
 refine returnsInHanded_of_change_and (C:=Tryz.checked) (X:=λw _=>laidMetH Tryz.prog aaX w) (λ_ _ _ hh h=>h.of_heap hh) own' started (by kernel_rfl) Tryz.func3
  (ChangeSpec.witness_shaped (enc:=enc) (C:=Tryz.checked) (os:=os) (X:=λw _=>laidMetH Tryz.prog aaX w) false (World.laidAll Tryz.prog os aaX) #[.int .u8 0,.slice none 0 0,.slice none 0 0,.slice none 0 0,.slice none 0 0] 8 (World.laidAll_os _ _ _)
   (World.shaped_of_ZipB (by kernel_rfl) (by kernel_rfl)) (by kernel_rfl) (by kernel_rfl) (by kernel_rfl)
   (by rw[MakeChecks.laidMetH_plain _ _ _ (by kernel_rfl)];exact laidMet_laidAll _ (by kernel_rfl) (by kernel_rfl))) ?_
 intro W base args ds gs before hval0 hW hc hsz hL _
 have hval:∀(j:Nat) t v,Tryz.f3.params[j]?=some t->args[j]?=some v->Value.okWide Tryz.prog W .any base t v:=hval0
 have hW':=hW
 obtain⟨p,q,hA0,hV,rfl,_,_⟩:=hW
 have hA:DataW.TrodAll enc Tryz.prog W 0 (λ_=>true) true Tryz.f3.params.toList args.toList ds p:=hA0
 have hsz1:(DataW.weightsEach Tryz.prog (Tryz.f3.params.toList++Rows.clearingFixpointsSpec.plain.varTypes Tryz.prog) (ds++gs)).all (·<=reachBytes)=true:=hsz
 obtain⟨rfl,rfl⟩:=trodVars_none hV
 rw[Tryz.params3]at hsz1 hval hA
 clear hA0 hval0 hsz hc hL hV
 obtain⟨v1,vs1,d1,ds1,p1,q1,e1,rfl,rfl,h1,hA⟩:=trodAll_cons hA
 obtain⟨v2,vs2,d2,ds2,p2,q2,rfl,rfl,rfl,h2,hA⟩:=trodAll_cons hA
 obtain⟨v3,vs3,d3,ds3,p3,q3,rfl,rfl,rfl,h3,hA⟩:=trodAll_cons hA
 obtain⟨v4,vs4,d4,ds4,p4,q4,rfl,rfl,rfl,h4,hA⟩:=trodAll_cons hA
 obtain⟨v5,vs5,d5,ds5,p5,q5,rfl,rfl,rfl,h5,hA⟩:=trodAll_cons hA
 obtain⟨rfl,rfl,rfl⟩:=trodAll_nil hA
 obtain rfl:args= #[v1,v2,v3,v4,v5]:=by rw[<-Array.toArray_toList (xs:=args),e1]
 clear hA e1
 obtain⟨D1,rfl,b1⟩:=awh (hval 0 _ _ rfl rfl) h1
 obtain⟨a2,n2,c2,f2,rfl,o2⟩:=DK Tryz.underlying22 (hval 1 _ _ rfl rfl) h2
 obtain⟨w2,m2,D2,e2,l2,s2,b2⟩:=aqy o2 (DJ hsz1 (j:=1) rfl rfl)
 obtain rfl:w2=.slice a2 n2 c2:=by simpa using e2.symm
 obtain⟨a3,n3,c3,f3,rfl,o3⟩:=DK Tryz.underlying23 (hval 2 _ _ rfl rfl) h3
 obtain⟨w3,m3,D3,e3,l3,s3,b3⟩:=aqz o3 (DJ hsz1 (j:=2) rfl rfl)
 obtain rfl:w3=.slice a3 n3 c3:=by simpa using e3.symm
 obtain⟨a4,n4,c4,f4,rfl,o4⟩:=DK Tryz.underlying24 (hval 3 _ _ rfl rfl) h4
 obtain⟨w4,m4,D4,e4,l4,s4,b4⟩:=abk o4 (DJ hsz1 (j:=3) rfl rfl)
 obtain rfl:w4=.slice a4 n4 c4:=by simpa using e4.symm
 obtain⟨a5,n5,c5,f5,rfl,o5⟩:=DK Tryz.underlying24 (hval 4 _ _ rfl rfl) h5
 obtain⟨w5,m5,D5,e5,l5,s5,b5⟩:=abk o5 (DJ hsz1 (j:=4) rfl rfl)
 obtain rfl:w5=.slice a5 n5 c5:=by simpa using e5.symm
 exact afn rfl rfl rfl (by kernel_rfl) hW' (PY b1 s2 b2 s3 b3 l3 s4 b4 l4 s5 b5 l5)
end Go.Proofs.Xe
