import Derived.Test.YtchhojplceoifaaGreatDoorYf47
set_option linter.all false
set_option maxHeartbeats 8000000
namespace Go.Proofs.Xe
open Go.RowKit Go.Proofs.Ins
def Xa{W:World}{nm sv:Nat}{v2 v3 v4 v5 v7:Value}(hnm:nm<=255)(hsv:sv<=65535){n2 n3 n4 n5 n7:Nat}{M:Nat->Nat}{L P D:Nat->Nat->Nat}(h2:HL (St.of W).h 1 (yX W.heap.size v2) n2 λi=>[.int .u16 (.ofNat (M i))])(hM:∀i,i<n2->M i<=65535)
  (h3:HL (St.of W).h 4 (yX W.heap.size v3) n3 λi=>[.int .u16 (.ofNat (L i 0)),.int .u16 (.ofNat (L i 1)),.int .u16 (.ofNat (L i 2)),.int .u16 (.ofNat (L i 3))]) (hL:∀i j,i<n3->L i j<=65535) (hn3:n3<=140737488351232)
  (h4:HL (St.of W).h 3 (yX W.heap.size v4) n4 λi=>[.int .u16 (.ofNat (P i 0)),.int .u16 (.ofNat (P i 1)),.int .u16 (.ofNat (P i 2))]) (hP:∀i j,i<n4->P i j<=65535) (hn4:n4<=140737488351232)
  (h5:HL (St.of W).h 3 (yX W.heap.size v5) n5 λi=>[.int .u16 (.ofNat (D i 0)),.int .u16 (.ofNat (D i 1)),.int .u16 (.ofNat (D i 2))]) (hD:∀i j,i<n5->D i j<=65535) (hn5:n5<=140737488351232)
  {Z:Nat->Nat}(h7:HL (St.of W).h 1 (yX W.heap.size v7) n7 λi=>[.int .u16 (.ofNat (Z i))]) (hZ:∀i,i<n7->Z i<=65535):
  Calls Tryz.prog 8 #[.int .u8 (nm:Int),v2,v3,v4,v5,.int .u16 (sv:Int),v7] W λe w'=>e=.returned (.bool true)/\Below W.heap.size W w':=
 ate (QO (WF.of W) hnm hsv M L P D h2 hM h3 hL jb h4 hP jb h5 hD jb Z h7 hZ λs hs=>ag0 hs) ⟨rfl,E5 _ _ h2.kn,E5 _ _ h3.kn,E5 _ _ h4.kn,E5 _ _ h5.kn,rfl,E5 _ _ h7.kn,trivial⟩
end Go.Proofs.Xe
namespace Go.Proofs.Xe
open Go Go.RowKit Go.ChangeShapes Go.WideShapes Go.ChangeAt Go.Proofs.Ins Go.Proofs.YtchhojplceoifaaGreatDoor
set_option maxRecDepth 100000 in
theorem extremes_lifted(os:Os)(started:os.Started)(H:Type)(enc:TypeId×Value->H):
  ReturnsInHanded {} Tryz.checked os 8 .any (λw args=>(Rows.defaultcostExtremesSpec.pre enc Tryz.prog Tryz.f8 [] false w args/\laidMetH Tryz.prog acD w)/\sizedMet enc Tryz.prog Tryz.f8 (OpenSpec.ofChange Rows.defaultcostExtremesSpec) false w args)
   (Rows.defaultcostExtremesSpec.post enc Tryz.prog Tryz.f8 false true false false):=by
 refine returnsInHanded_of_change_and (C:=Tryz.checked) (X:=λw _=>laidMetH Tryz.prog acD w) (λ_ _ _ hh h=>h.of_heap hh) own' started (by kernel_rfl) Tryz.func8
  (ChangeSpec.witness_shaped (enc:=enc) (C:=Tryz.checked) (os:=os) (X:=λw _=>laidMetH Tryz.prog acD w) false (World.laidAll Tryz.prog os acD) #[.int .u8 0,.slice none 0 0,.slice none 0 0,.slice none 0 0,.slice none 0 0,.int .u16 0,.slice none 0 0] 8 (World.laidAll_os _ _ _)
   (World.shaped_of_ZipB (by kernel_rfl) (by kernel_rfl)) (by kernel_rfl) (by kernel_rfl) (by kernel_rfl)
   (by rw[MakeChecks.laidMetH_plain _ _ _ (by kernel_rfl)];exact laidMet_laidAll _ (by kernel_rfl) (by kernel_rfl))) ?_
 intro W base args ds gs before hval0 hW hc hsz hL _
 have hval:∀(j:Nat) t v,Tryz.f8.params[j]?=some t->args[j]?=some v->Value.okWide Tryz.prog W .any base t v:=hval0
 have hW':=hW
 obtain⟨p,q,hA0,hV,rfl,_,_⟩:=hW
 have hA:DataW.TrodAll enc Tryz.prog W 0 (λ_=>true) true Tryz.f8.params.toList args.toList ds p:=hA0
 have hsz1:(DataW.weightsEach Tryz.prog (Tryz.f8.params.toList++Rows.defaultcostExtremesSpec.plain.varTypes Tryz.prog) (ds++gs)).all (·<=reachBytes)=true:=hsz
 obtain⟨rfl,rfl⟩:=trodVars_none hV
 rw[Tryz.params8]at hsz1 hval hA
 clear hA0 hval0 hsz hc hL hV
 obtain⟨v1,vs1,d1,ds1,p1,q1,e1,rfl,rfl,h1,hA⟩:=trodAll_cons hA
 obtain⟨v2,vs2,d2,ds2,p2,q2,rfl,rfl,rfl,h2,hA⟩:=trodAll_cons hA
 obtain⟨v3,vs3,d3,ds3,p3,q3,rfl,rfl,rfl,h3,hA⟩:=trodAll_cons hA
 obtain⟨v4,vs4,d4,ds4,p4,q4,rfl,rfl,rfl,h4,hA⟩:=trodAll_cons hA
 obtain⟨v5,vs5,d5,ds5,p5,q5,rfl,rfl,rfl,h5,hA⟩:=trodAll_cons hA
 obtain⟨v6,vs6,d6,ds6,p6,q6,rfl,rfl,rfl,h6,hA⟩:=trodAll_cons hA
 obtain⟨v7,vs7,d7,ds7,p7,q7,rfl,rfl,rfl,h7,hA⟩:=trodAll_cons hA
 obtain⟨rfl,rfl,rfl⟩:=trodAll_nil hA
 obtain rfl:args= #[v1,v2,v3,v4,v5,v6,v7]:=by rw[<-Array.toArray_toList (xs:=args),e1]
 clear hA e1
 obtain⟨D1,rfl,b1⟩:=ay4 (hval 0 _ _ rfl rfl) h1
 obtain⟨a2,n2,c2,f2,rfl,o2⟩:=AA Tryz.underlying22 (hval 1 _ _ rfl rfl) h2
 obtain⟨w2,m2,D2,e2,l2,s2,b2⟩:=aiI o2 (Az hsz1 (j:=1) rfl rfl)
 obtain rfl:w2=.slice a2 n2 c2:=by simpa using e2.symm
 obtain⟨a3,n3,c3,f3,rfl,o3⟩:=AA Tryz.underlying23 (hval 2 _ _ rfl rfl) h3
 obtain⟨w3,m3,D3,e3,l3,s3,b3⟩:=asX o3 (Az hsz1 (j:=2) rfl rfl)
 obtain rfl:w3=.slice a3 n3 c3:=by simpa using e3.symm
 obtain⟨a4,n4,c4,f4,rfl,o4⟩:=AA Tryz.underlying24 (hval 3 _ _ rfl rfl) h4
 obtain⟨w4,m4,D4,e4,l4,s4,b4⟩:=acX o4 (Az hsz1 (j:=3) rfl rfl)
 obtain rfl:w4=.slice a4 n4 c4:=by simpa using e4.symm
 obtain⟨a5,n5,c5,f5,rfl,o5⟩:=AA Tryz.underlying24 (hval 4 _ _ rfl rfl) h5
 obtain⟨w5,m5,D5,e5,l5,s5,b5⟩:=acX o5 (Az hsz1 (j:=4) rfl rfl)
 obtain rfl:w5=.slice a5 n5 c5:=by simpa using e5.symm
 obtain⟨D6,rfl,b6⟩:=avq (hval 5 _ _ rfl rfl) h6
 obtain⟨a7,n7,c7,f7,rfl,o7⟩:=AA Tryz.underlying22 (hval 6 _ _ rfl rfl) h7
 obtain⟨w7,m7,D7,e7,l7,s7,b7⟩:=aiI o7 (Az hsz1 (j:=6) rfl rfl)
 obtain rfl:w7=.slice a7 n7 c7:=by simpa using e7.symm
 exact ahh rfl rfl rfl (by kernel_rfl) hW' (Xa b1 b6 s2 b2 s3 b3 l3 s4 b4 l4 s5 b5 l5 s7 b7)
end Go.Proofs.Xe
