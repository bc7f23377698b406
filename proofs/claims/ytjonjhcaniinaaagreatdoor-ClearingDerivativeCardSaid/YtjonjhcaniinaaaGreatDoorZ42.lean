/- ClearingDerivative: for every input the law returns true. Conditions: those of the given row alone. -/
import Derived.Test.YtjonjhcaniinaaaGreatDoorZ41
import Derived.Test.YtjonjhcaniinaaaGreatDoorZ40
set_option linter.all false
set_option maxHeartbeats 8000000
namespace Go.Proofs.Xe
open Go.RowKit Go.Proofs Go.Proofs.Ins
noncomputable section
def ari (f:Nat) (args:List V) (σ:St):Option (V×St) :=
 if f=8 then (match agM (aci 0 false) (monC 10 10) args σ with|some r=>some r|none=>agM (aci 3 true) (monC 6 3) args σ)
 else if f=9 then agM (aci 0 false) (monC 0 0) args σ
 else ajR f args σ
def EY:Env:=⟨ajT,ari⟩
end
theorem arj:NQ Tryz.prog EY:=by
 refine ⟨fun f F h=>?_,fun f args σ v σ' h=>?_⟩
 ·unfold EY at h
  dsimp only at h
  exact aac f F h
 unfold EY at h
 dsimp only at h
 unfold ari at h
 split at h
 ·next e =>
  subst e
  have hf:okF Tryz.prog 8:=dS (by kernel_rfl)
  split at h
  ·next r hr=>cases h;exact Rt hf ard hr
  ·exact Rt hf arh h
 ·split at h
  ·next e =>
   subst e
   exact Rt (dS (by kernel_rfl)) arf h
  ·exact Z9 f args σ v σ' h
theorem acp:isT (ig EY 2000 13 [] ⟨.leaf,0⟩)=true:=by kernel_rfl
theorem ajX:H6 13:=by
 obtain ⟨σ,hσ⟩:=agK acp
 refine ⟨dS (by kernel_rfl),fun w=>?_⟩
 have hR:Rel w.heap.size w (fun _=>none) ⟨.leaf,0⟩ w:=by
  refine ⟨jp,Below.refl _ _,fun _ _ _ _ h=>?_,fun _ _ h=>?_,fun _ _ _ _ h=>?_,fun _ _ _ _ h=>?_,fun b _=>⟨rfl,?_⟩⟩
  ·cases h
  ·cases h
  ·cases h
  ·cases h
  ·exact Tr.C9 b
 refine (EL arj (by kernel_rfl) hσ hR (aG:=#[]) trivial).mono fun e w' he=>?_
 obtain ⟨cv,rfl,φ',-,hR',hv,-⟩:=he
 have hv:cv = .bool true:=hv
 exact ⟨by rw [hv],hR'.bel⟩
end Go.Proofs.Xe
namespace Go.Proofs.Xe
open Go.RowKit Go.Proofs.Ins
theorem aoi {f:Nat} {args:List V} {aG:Array Value} {W:World} (h:aO EN f args (St.of W) fun r _=>r = .c (.bool true)) (ha:wE (Ph.id W.heap.size) args aG.toList) :
  Calls Tryz.prog f aG W fun e w'=>e = .returned (.bool true)∧Below W.heap.size W w':=by
 obtain ⟨n,v,σ',h1,rfl⟩:=h
 refine (EL aqj (by kernel_rfl) h1 (Rel.of W) ha).mono fun e w' he=>?_
 obtain ⟨cv,rfl,φ',-,hR',hv,-⟩:=he
 have hv:cv = .bool true:=hv
 exact ⟨by rw [hv],hR'.bel⟩
theorem LM {W:World} {nm:Nat} {v2 v3 v4 v5 v6 v7:Value} (hnm:nm≤255) {n2 n3 n4 n5 n6 n7:Nat} {M X U:Nat→Nat} {L P D:Nat→Nat→Nat} (h2:HL (St.of W).h 1 (rO W.heap.size v2) n2 fun i=>[.int .u16 (.ofNat (M i))]) (hM : ∀ i,i<n2→M i≤65535)
  (h3:HL (St.of W).h 4 (rO W.heap.size v3) n3 fun i=>[.int .u16 (.ofNat (L i 0)),.int .u16 (.ofNat (L i 1)),.int .u16 (.ofNat (L i 2)),.int .u16 (.ofNat (L i 3))]) (hL : ∀ i j,i<n3→L i j≤65535) (hn3:n3≤140737488351232)
  (h4:HL (St.of W).h 3 (rO W.heap.size v4) n4 fun i=>[.int .u16 (.ofNat (P i 0)),.int .u16 (.ofNat (P i 1)),.int .u16 (.ofNat (P i 2))]) (hP : ∀ i j,i<n4→P i j≤65535) (hn4:n4≤140737488351232)
  (h5:HL (St.of W).h 3 (rO W.heap.size v5) n5 fun i=>[.int .u16 (.ofNat (D i 0)),.int .u16 (.ofNat (D i 1)),.int .u16 (.ofNat (D i 2))]) (hD : ∀ i j,i<n5→D i j≤65535) (hn5:n5≤140737488351232)
  (h6:HL (St.of W).h 1 (rO W.heap.size v6) n6 fun i=>[.int .u16 (.ofNat (X i))]) (hX : ∀ i,i<n6→X i≤65535) (h7:HL (St.of W).h 1 (rO W.heap.size v7) n7 fun i=>[.int .u16 (.ofNat (U i))]) (hU : ∀ i,i<n7→U i≤65535) :
  Calls Tryz.prog 6 #[.int .u8 (nm:Int),v2,v3,v4,v5,v6,v7] W fun e w'=>e = .returned (.bool true)∧Below W.heap.size W w' :=
 aoi (FB (WF.of W) ajX hnm M L P D h2 hM h3 hL jb h4 hP jb h5 hD jb X h6 hX U h7 hU) ⟨rfl,xH _ _ h2.kn,xH _ _ h3.kn,xH _ _ h4.kn,xH _ _ h5.kn,xH _ _ h6.kn,xH _ _ h7.kn,trivial⟩
end Go.Proofs.Xe
namespace Go.Proofs.Xe
open Go Go.RowKit Go.ChangeShapes Go.WideShapes Go.ChangeAt Go.Proofs.Ins Go.Proofs.YtjonjhcaniinaaaGreatDoor
set_option maxRecDepth 100000 in
theorem derivative_lifted (os:Os) (started:os.Started) (H:Type) (enc:TypeId×Value→H) :
  ReturnsInHanded {} Tryz.checked os 6 .any (fun w args=>(Rows.clearingDerivativeSpec.pre enc Tryz.prog Tryz.f6 [] false w args∧laidMetH Tryz.prog YB w)∧sizedMet enc Tryz.prog Tryz.f6 (OpenSpec.ofChange Rows.clearingDerivativeSpec) false w args)
   (Rows.clearingDerivativeSpec.post enc Tryz.prog Tryz.f6 false true false false):=by
 refine returnsInHanded_of_change_and (C:=Tryz.checked) (X:=fun w _=>laidMetH Tryz.prog YB w) (fun _ _ _ hh h=>h.of_heap hh) own' started (by kernel_rfl) Tryz.func6
  (ChangeSpec.witness_shaped (enc:=enc) (C:=Tryz.checked) (os:=os) (X:=fun w _=>laidMetH Tryz.prog YB w) false (World.laidAll Tryz.prog os YB) #[.int .u8 0,.slice none 0 0,.slice none 0 0,.slice none 0 0,.slice none 0 0,.slice none 0 0,.slice none 0 0] 8 (World.laidAll_os _ _ _)
   (World.shaped_of_ZipB (by kernel_rfl) (by kernel_rfl)) (by kernel_rfl) (by kernel_rfl) (by kernel_rfl)
   (by rw [MakeChecks.laidMetH_plain _ _ _ (by kernel_rfl)];exact laidMet_laidAll _ (by kernel_rfl) (by kernel_rfl))) ?_
 intro W base args ds gs before hval0 hW hc hsz hL _
 have hval : ∀ (j:Nat) t v,Tryz.f6.params[j]?=some t→args[j]?=some v→Value.okWide Tryz.prog W .any base t v:=hval0
 have hW':=hW
 obtain ⟨p,q,hA0,hV,rfl,_,_⟩:=hW
 have hA:DataW.TrodAll enc Tryz.prog W 0 (fun _=>true) true Tryz.f6.params.toList args.toList ds p:=hA0
 have hsz1:(DataW.weightsEach Tryz.prog (Tryz.f6.params.toList ++ Rows.clearingDerivativeSpec.plain.varTypes Tryz.prog) (ds ++ gs)).all (·≤reachBytes)=true:=hsz
 obtain ⟨rfl,rfl⟩:=trodVars_none hV
 rw [Tryz.params6] at hsz1 hval hA
 clear hA0 hval0 hsz hc hL hV
 obtain ⟨v1,vs1,d1,ds1,p1,q1,e1,rfl,rfl,h1,hA⟩:=trodAll_cons hA
 obtain ⟨v2,vs2,d2,ds2,p2,q2,rfl,rfl,rfl,h2,hA⟩:=trodAll_cons hA
 obtain ⟨v3,vs3,d3,ds3,p3,q3,rfl,rfl,rfl,h3,hA⟩:=trodAll_cons hA
 obtain ⟨v4,vs4,d4,ds4,p4,q4,rfl,rfl,rfl,h4,hA⟩:=trodAll_cons hA
 obtain ⟨v5,vs5,d5,ds5,p5,q5,rfl,rfl,rfl,h5,hA⟩:=trodAll_cons hA
 obtain ⟨v6,vs6,d6,ds6,p6,q6,rfl,rfl,rfl,h6,hA⟩:=trodAll_cons hA
 obtain ⟨v7,vs7,d7,ds7,p7,q7,rfl,rfl,rfl,h7,hA⟩:=trodAll_cons hA
 obtain ⟨rfl,rfl,rfl⟩:=trodAll_nil hA
 obtain rfl:args = #[v1,v2,v3,v4,v5,v6,v7]:=by rw [← Array.toArray_toList (xs:=args),e1]
 clear hA e1
 obtain ⟨D1,rfl,b1⟩:=arI (hval 0 _ _ rfl rfl) h1
 obtain ⟨a2,n2,c2,f2,rfl,o2⟩:=sH Tryz.underlying22 (hval 1 _ _ rfl rfl) h2
 obtain ⟨w2,m2,D2,e2,l2,s2,b2⟩:=Xd o2 (sD hsz1 (j:=1) rfl rfl)
 obtain rfl:w2 = .slice a2 n2 c2:=by simpa using e2.symm
 obtain ⟨a3,n3,c3,f3,rfl,o3⟩:=sH Tryz.underlying23 (hval 2 _ _ rfl rfl) h3
 obtain ⟨w3,m3,D3,e3,l3,s3,b3⟩:=amK o3 (sD hsz1 (j:=2) rfl rfl)
 obtain rfl:w3 = .slice a3 n3 c3:=by simpa using e3.symm
 obtain ⟨a4,n4,c4,f4,rfl,o4⟩:=sH Tryz.underlying24 (hval 3 _ _ rfl rfl) h4
 obtain ⟨w4,m4,D4,e4,l4,s4,b4⟩:=Y0 o4 (sD hsz1 (j:=3) rfl rfl)
 obtain rfl:w4 = .slice a4 n4 c4:=by simpa using e4.symm
 obtain ⟨a5,n5,c5,f5,rfl,o5⟩:=sH Tryz.underlying24 (hval 4 _ _ rfl rfl) h5
 obtain ⟨w5,m5,D5,e5,l5,s5,b5⟩:=Y0 o5 (sD hsz1 (j:=4) rfl rfl)
 obtain rfl:w5 = .slice a5 n5 c5:=by simpa using e5.symm
 obtain ⟨a6,n6,c6,f6,rfl,o6⟩:=sH Tryz.underlying22 (hval 5 _ _ rfl rfl) h6
 obtain ⟨w6,m6,D6,e6,l6,s6,b6⟩:=Xd o6 (sD hsz1 (j:=5) rfl rfl)
 obtain rfl:w6 = .slice a6 n6 c6:=by simpa using e6.symm
 obtain ⟨a7,n7,c7,f7,rfl,o7⟩:=sH Tryz.underlying22 (hval 6 _ _ rfl rfl) h7
 obtain ⟨w7,m7,D7,e7,l7,s7,b7⟩:=Xd o7 (sD hsz1 (j:=6) rfl rfl)
 obtain rfl:w7 = .slice a7 n7 c7:=by simpa using e7.symm
 exact ac9 rfl rfl rfl (by kernel_rfl) hW' (LM b1 s2 b2 s3 b3 l3 s4 b4 l4 s5 b5 l5 s6 b6 s7 b7)
end Go.Proofs.Xe
