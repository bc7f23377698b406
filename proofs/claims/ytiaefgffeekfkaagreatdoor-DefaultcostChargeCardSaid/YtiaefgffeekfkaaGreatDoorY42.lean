/- DefaultcostCharge: for every input the law returns true. Conditions: those of the given row alone. -/
import Derived.Test.YtiaefgffeekfkaaGreatDoorY41
set_option linter.unusedSimpArgs false
set_option linter.unusedVariables false
set_option maxHeartbeats 8000000
namespace Go.Proofs.Xe
open Go Go.RowKit Go.Proofs.Ins
noncomputable section
noncomputable def om {α β:Type} (f:α→Option β):List α→Option (List β)
 | []=>some []
 | x::l=>match f x,om f l with|some y,some r=>some (y::r)|_,_=>none
noncomputable def fL {α:Sort _} : List Nat→(List Nat→α)→α
 | [],k=>k []
 | x::l,k=>fN x fun x=>fL l fun l=>k (x::l)
noncomputable def tB:Value→Option B
 | .int k n=>some (.int k n)
 | .bool b=>some (.bool b)
 | .string s=>bif Nat.beq s.size 0 then some (.str ⟨#[]⟩) else none
 | .pointer none=>some .nilp
 | .slice none 0 0=>some .nils
 | _=>none
noncomputable def tV:Value→Option V
 | .agg r=>(om tB r.toList).map .agg
 | .nilFunc=>some .nilf
 | v=>(tB v).map .c
noncomputable def tO:Operand→Option O
 | .tmp t=>some (.t t)
 | .const v=>(tV v).map .k
 | .func f=>some (.k (.fn f []))
 | _=>none
noncomputable def tOO:Option Operand→Option (Option O)
 | none=>some none
 | some x=>(tO x).map some
noncomputable def tZ (P:Program) (t:TypeId):Option (List B):=match P.info? t with
 | some i=>(match i.zero with|some z=>om tB z.cells.toList|none=>none)
 | none=>none
noncomputable def tTy (P:Program) (t:TypeId):Option (Nat×Bool):=match P.info? t,P.underlying t with
 | some i,some d=>fN i.size fun n=>some (n,aggD d)
 | _,_=>none
noncomputable def tEl (P:Program) (t:TypeId):Option TypeId:=match P.underlying t with|some (.slice e)=>some e|_=>none
noncomputable def tSz (P:Program) (t:TypeId):Option Nat:=match P.info? t with|some i=>fN i.size some|none=>none
noncomputable def tBy (P:Program) (t:TypeId):Option Nat:=match P.info? t with|some i=>fN i.bytes some|none=>none
noncomputable def tPs (g:Nat→Option (Nat×Nat)):List (Nat×Operand)→Option (List (Nat×Nat×O)):=om fun x=>match g x.1,tO x.2 with|some p,some y=>fN p.1 fun a=>fN p.2 fun b=>some (a,b,y)|_,_=>none
noncomputable def eqK:BinOp→Option Bool
 | .eql=>some true
 | .neq=>some false
 | _=>none
noncomputable def tEq (P:Program) (p:Bool) (t:TypeId) (x:O) (y:Operand) (z:O):Option AOp:=match P.underlying t with
 | some .bool=>some (.eqb p x z)
 | some (.struct _)=>some (.eqagg p x z)
 | some (.slice _)=>some (.nil 0 p x)
 | some (.pointer _)=>some (.nil 1 p x)
 | some (.func ..)=>some (.nil 2 p x)
 | _=>none
noncomputable def tOp (P:Program):Op→Option AOp
 | .move x|.assign x=>do some (.mov (← tO x))
 | .pick c a b=>do some (.pick (← tO c) (← tO a) (← tO b))
 | .load t x=>do
  let g←tTy P t
  some (.load g.1 g.2 (← tO x))
 | .store t x u=>do some (.store (← tSz P t) (← tO x) (← tO u))
 | .fieldAddr s x f=>do
  let fd←fieldOk P s f
  some (.faddr fd.offset (← tO x))
 | .field s x f=>do
  let fd←fieldOk P s f
  let g←tTy P fd.type
  some (.field fd.offset g.1 g.2 (← tO x))
 | .indexAddr t x i=>match P.underlying t,i with
  | some (.slice el),i=>do some (.iaddr (← tSz P el) (← tO x) (← tO i))
  | some (.array _ el),.const (.int _ (.ofNat j))=>do
   let n←tSz P el
   let y←tO x
   fN (j*n) fun m=>some (.faddr m y)
  | _,_=>none
 | .extract x i=>do some (.ext i (← tO x))
 | .binOp b t x y _=>do
  let x'←tO x
  let y'←tO y
  match eqK b with
  | some p=>(match tEq P p t x' y y' with|some r=>some r|none=>some (.bin b x' y'))
  | none=>some (.bin b x' y')
 | .unOp .not _ x=>do some (.not (← tO x))
 | .convert _ d x=>match P.underlying d with
  | some (.int k)=>do some (.conv k (← tO x))
  | _=>none
 | .build t ps=>match P.underlying t with
  | some (.struct fs)=>do
   let pl←placesOf P fs.toList
   some (.build (← tZ P t) (← tPs (fun i=>pl[i]?) ps.toList))
  | _=>none
 | .makeMap t none=>bif Nat.beq t 149 then some .mkset else some .mkmap
 | .lookup _ m k false=>do some (.lookup (← tO m) (← tO k))
 | .mapUpdate _ m k v=>do some (.mupd (← tO m) (← tO k) (← tO v))
 | .makeFunc (.func f) _ cs=>do some (.mkfn f (← om tO cs.toList))
 | .slice t x lo hi mx=>do
  let e←tEl P t
  some (.slice (← tSz P e) (← tO x) (← tOO lo) (← tOO hi) (← tOO mx))
 | .nilCheck x=>do some (.nchk (← tO x))
 | .alloc e=>do some (.alloc (← tZ P e))
 | .box _ x=>do some (.box (← tO x))
 | .makeSlice t l c=>do
  let e←tEl P t
  some (.mksl (← tBy P e) (← tZ P e) (← tO l) (← tO c))
 | .buildSlice t len ps=>do
  let e←tEl P t
  let n←tSz P e
  some (.bsl n len (← tZ P e) (← tPs (fun i=>some (i*n,n)) ps.toList))
 | .call c=>match c.callee,c.args.toList,c.argTypes.toList with
  | .value f,xs,_=>do some (.call (← tO f) (← om tO xs))
  | .builtin .len,[x],_=>do some (.len (← tO x))
  | .builtin .min,[x,y],_=>do some (.min2 (← tO x) (← tO y))
  | .builtin .append,[s,x],[t,_]=>do
   let e←tEl P t
   some (.app e (← tSz P e) (← tBy P e) (← tO s) (← tO x))
  | _,_,_=>none
 | _=>none
noncomputable def tAO (P:Program) (ops:Array Oper) (o:Oper):Option AO:=match tOp P o.op with
 | some a=>(match o.guard with
  | none=>some ⟨o.dst,none,a⟩
  | some (j,b)=>(match (ops[j]?).bind (·.dst) with|some d=>some ⟨o.dst,some (d,b),a⟩|none=>none))
 | none=>none
noncomputable def uni:List Nat→List Nat→List Nat
 | [],l=>l
 | x::r,l=>bif l.contains x then uni r l else uni r (x::l)
noncomputable def ptE (acc:List (List Nat)):List Edge→List Nat→List Nat
 | [],l=>l
 | e::r,l=>bif Region.binds .any e then fL (uni (e.on::acc.getD e.on []) l) (ptE acc r) else ptE acc r l
noncomputable def ptL {α:Sort _} : List Oper→List (List Nat)→(List (List Nat)→α)→α
 | [],acc,k=>k acc
 | o::r,acc,k=>fL (ptE acc o.after.toList []) fun l=>ptL r (acc ++ [l]) k
noncomputable def actL:List AO→Nat→List Nat
 | [],_=>[]
 | a::l,i=>bif quietK a.op.kind then actL l (i+1) else i::actL l (i+1)
noncomputable def setBy:List AO→Nat→Nat→Option Nat
 | [],_,_=>none
 | a::l,i,t=>bif (match a.dst with|some d=>Nat.beq d t|none=>false) then some i else setBy l (i+1) t
noncomputable def tmsOf:List Operand→List Nat
 | []=>[]
 | .tmp t::l=>t::tmsOf l
 | _::l=>tmsOf l
noncomputable def lookL (aos:List AO) (w:List Nat):List Nat→List Nat×List Nat
 | []=>([],[])
 | t::l=>match setBy aos 0 t,lookL aos w l with
  | some p,(us,os)=>bif w.contains p then (uni [p] us,os) else (us,uni [t] os)
  | none,r=>r
noncomputable def stageL (w:List Nat):List Nat→Nat→Nat→Nat
 | [],_,b=>b
 | x::l,k,b=>bif w.contains x then stageL w l (k+1) k else stageL w l (k+1) b
noncomputable def tDos (pt:List (List Nat)) (acts:List Nat) (aos:List AO):List Oper→List AO→Nat→List (Nat×DO)
 | o::r,a::l,i =>
  let w:=pt.getD i []
  match lookL aos w (match a.g with|some (t,_)=>t::tmsOf o.op.operands.toList|none=>tmsOf o.op.operands.toList) with
  | (us,os)=>fL us fun us=>fL os fun os=>fN (stageL w acts 1 0) fun s=>fN i fun i=>(s,⟨i,us,os,a⟩)::tDos pt acts aos r l (i+1)
 | _,_,_=>[]
noncomputable def qOf (s:Nat):List (Nat×DO)→(List DO→Option Dr)→Option Dr
 | [],k=>k []
 | (t,d)::l,k=>bif Nat.beq t s && quietK d.o.op.kind then qOf s l fun r=>k (d::r) else qOf s l k
noncomputable def actOf (x:Nat):List (Nat×DO)→Option DO
 | []=>none
 | (_,d)::l=>bif Nat.beq d.i x then some d else actOf x l
noncomputable def tDr (dos:List (Nat×DO)):List Nat→Nat→Option Dr
 | [],s=>qOf s dos fun q=>some (.fin q)
 | x::r,s=>match actOf x dos,tDr dos r (s+1) with
  | some d,some D=>qOf s dos fun q=>some (.act q d D)
  | _,_=>none
noncomputable def dsL:List AO→List Nat
 | []=>[]
 | a::l=>match a.dst with|some d=>d::dsL l|none=>dsL l
noncomputable def tReg (P:Program) (ops:Array Oper):Bool→Option AC
 | false=>(om (tAO P ops) ops.toList).map .ops
 | true=>match om (tAO P ops) ops.toList with
  | some aos=>ptL ops.toList [] fun pt=>fL (actL aos 0) fun acts=>(match tDr (tDos pt acts aos ops.toList aos 0) acts 0 with
   | some D=>fL (dsL aos) fun ds=>some (.drawn D pt ds)
   | none=>none)
  | none=>none
noncomputable def tC (P:Program):Code→Option AC
 | .skip|.label _=>some .skip
 | .region _ ops dr=>tReg P ops dr
 | .seq a b=>match tC P a,tC P b with|some x,some y=>some (.seq x y)|_,_=>none
 | .cond c a b=>match tO c,tC P a,tC P b with|some z,some x,some y=>some (.cond z x y)|_,_,_=>none
 | .block i a=>match tC P a with|some x=>some (.block i x)|none=>none
 | .loop a=>match tC P a with|some x=>some (.loop x)|none=>none
 | .exit i=>some (.exit i)
 | .ret=>some .ret
 | _=>none
noncomputable def tRes (P:Program):List ResultVar→Option (List (Nat×Option (Nat×Bool)))
 | []=>some []
 | .tmp t::r=>match tRes P r with|some l=>some ((t,none)::l)|none=>none
 | .cell t ty::r=>match tTy P ty,tRes P r with|some g,some l=>some ((t,some g)::l)|_,_=>none
noncomputable def tF (P:Program) (f:Nat):Option AF:=match P.funcs[f]? with
 | some fn=>(match fn.body with
  | some c=>(match tC P c,tRes P fn.results.toList with
   | some b,some r=>fN fn.ntmps fun n=>bif impF P f ⟨n,b,r⟩ then some ⟨n,b,r⟩ else none
   | _,_=>none)
  | none=>none)
 | none=>none
theorem tF_ok {P:Program} {f:Nat} {F:AF} (h:tF P f=some F):impF P f F=true:=by
 unfold tF at h
 split at h
 ·split at h
  ·split at h
   ·next b r _ _ =>
    rw [fN_eq] at h
    cases hi:impF P f ⟨_,b,r⟩ with
    | false=>rw [hi] at h;cases h
    | true=>rw [hi] at h;cases h;exact hi
   ·cases h
  ·cases h
 ·cases h
noncomputable def fnsK (f:Nat):Option AF:=tF Tryz.prog f
theorem fnsK_ok (f:Nat) (F:AF) (h:fnsK f=some F):impF Tryz.prog f F=true:=by
 unfold fnsK at h
 exact tF_ok h
noncomputable def EK:Env:=⟨fnsK,orcC⟩
theorem EK_ok:EnvOk Tryz.prog EK:=by
 refine ⟨?_,?_⟩
 ·intro f F h
  unfold EK at h
  dsimp only at h
  exact fnsK_ok f F h
 ·intro f args σ v σ' h
  unfold EK at h
  exact orcC_ok f args σ v σ' h
end
end Go.Proofs.Xe
namespace Go.Proofs.Xe
open Go.RowKit Go.Proofs Go.Proofs.Ins
theorem awake_run:isT (callF EK 2000 9 [] ⟨.leaf,0⟩)=true:=by kernel_rfl
theorem awake21:AwakeOk 9:=by
 obtain ⟨σ,hσ⟩:=isT_spec awake_run
 refine ⟨okF_of (by kernel_rfl),fun w=>?_⟩
 have hR:Rel w.heap.size w (fun _=>none) ⟨.leaf,0⟩ w:=by
  refine ⟨Nat.le_refl _,Below.refl _ _,fun _ _ _ _ h=>?_,fun _ _ h=>?_,fun _ _ _ _ h=>?_,fun _ _ _ _ h=>?_,fun b _=>⟨rfl,?_⟩⟩
  ·cases h
  ·cases h
  ·cases h
  ·cases h
  ·exact Tr.get_leaf b
 refine (call_from EK_ok (by kernel_rfl) hσ hR (cargs:=#[]) trivial).mono fun e w' he=>?_
 obtain ⟨cv,rfl,φ',-,hR',hv,-⟩:=he
 have hv:cv = .bool true:=hv
 exact ⟨by rw [hv],hR'.bel⟩
end Go.Proofs.Xe
namespace Go.Proofs.Xe
open Go.RowKit Go.Proofs.Ins
theorem law_of {f:Nat} {args:List V} {cargs:Array Value} {W:World} (h:CallX EN f args (St.of W) fun r _=>r = .c (.bool true)) (ha:RVs (Ph.id W.heap.size) args cargs.toList) :
  Calls Tryz.prog f cargs W fun e w'=>e = .returned (.bool true)∧Below W.heap.size W w':=by
 obtain ⟨n,v,σ',h1,rfl⟩:=h
 refine (call_from EN_ok (by kernel_rfl) h1 (Rel.of W) ha).mono fun e w' he=>?_
 obtain ⟨cv,rfl,φ',-,hR',hv,-⟩:=he
 have hv:cv = .bool true:=hv
 exact ⟨by rw [hv],hR'.bel⟩
theorem law_charge {W:World} {nm x:Nat} {v2 v3 v4 v5 v6:Value} (hnm:nm≤255) (hx:x≤65535) {n2 n3 n4 n5 n6:Nat} {M:Nat→Nat} {L Q D:Nat→Nat→Nat} {Z:Nat→Nat} (h2:HL (St.of W).h 1 (absB W.heap.size v2) n2 fun i=>[.int .u16 (.ofNat (M i))]) (hM : ∀ i,i<n2→M i≤65535)
  (h3:HL (St.of W).h 4 (absB W.heap.size v3) n3 fun i=>[.int .u16 (.ofNat (L i 0)),.int .u16 (.ofNat (L i 1)),.int .u16 (.ofNat (L i 2)),.int .u16 (.ofNat (L i 3))]) (hL : ∀ i j,i<n3→L i j≤65535) (hn3:n3≤140737488351232)
  (h4:HL (St.of W).h 3 (absB W.heap.size v4) n4 fun i=>[.int .u16 (.ofNat (Q i 0)),.int .u16 (.ofNat (Q i 1)),.int .u16 (.ofNat (Q i 2))]) (hQ : ∀ i j,i<n4→Q i j≤65535) (hn4:n4≤140737488351232)
  (h5:HL (St.of W).h 3 (absB W.heap.size v5) n5 fun i=>[.int .u16 (.ofNat (D i 0)),.int .u16 (.ofNat (D i 1)),.int .u16 (.ofNat (D i 2))]) (hD : ∀ i j,i<n5→D i j≤65535) (hn5:n5≤140737488351232)
  (h6:HL (St.of W).h 1 (absB W.heap.size v6) n6 fun i=>[.int .u16 (.ofNat (Z i))]) (hZ : ∀ i,i<n6→Z i≤65535) :
  Calls Tryz.prog 4 #[.int .u8 (nm:Int),v2,v3,v4,v5,v6,.int .u16 (x:Int)] W fun e w'=>e = .returned (.bool true)∧Below W.heap.size W w' :=
 law_of (law_charge_x (WF.of W) awake21 hnm hx M L Q D Z h2 hM h3 hL (by omega) h4 hQ (by omega) h5 hD (by omega) h6 hZ) ⟨rfl,absB_RB _ _ h2.kn,absB_RB _ _ h3.kn,absB_RB _ _ h4.kn,absB_RB _ _ h5.kn,absB_RB _ _ h6.kn,rfl,trivial⟩
end Go.Proofs.Xe
namespace Go.Proofs.Xe
open Go Go.RowKit Go.ChangeShapes Go.WideShapes Go.ChangeAt Go.Proofs.Ins Go.Proofs.YtiaefgffeekfkaaGreatDoor
set_option maxRecDepth 100000 in
theorem charge_lifted (os:Os) (started:os.Started) (H:Type) (enc:TypeId×Value→H) :
  ReturnsInHanded {} Tryz.checked os 4 .any (fun w args=>(Rows.defaultcostChargeSpec.pre enc Tryz.prog Tryz.f4 [] false w args∧laidMetH Tryz.prog laidL w)∧sizedMet enc Tryz.prog Tryz.f4 (OpenSpec.ofChange Rows.defaultcostChargeSpec) false w args)
   (Rows.defaultcostChargeSpec.post enc Tryz.prog Tryz.f4 false true false false):=by
 refine returnsInHanded_of_change_and (C:=Tryz.checked) (X:=fun w _=>laidMetH Tryz.prog laidL w) (fun _ _ _ hh h=>h.of_heap hh) own' started (by kernel_rfl) Tryz.func4
  (ChangeSpec.witness_shaped (enc:=enc) (C:=Tryz.checked) (os:=os) (X:=fun w _=>laidMetH Tryz.prog laidL w) false (World.laidAll Tryz.prog os laidL) #[.int .u8 0,.slice none 0 0,.slice none 0 0,.slice none 0 0,.slice none 0 0,.slice none 0 0,.int .u16 0] 8 (World.laidAll_os _ _ _)
   (World.shaped_of_ZipB (by kernel_rfl) (by kernel_rfl)) (by kernel_rfl) (by kernel_rfl) (by kernel_rfl)
   (by rw [MakeChecks.laidMetH_plain _ _ _ (by kernel_rfl)];exact laidMet_laidAll _ (by kernel_rfl) (by kernel_rfl))) ?_
 intro W base args ds gs before hval0 hW hc hsz hL _
 have hval : ∀ (j:Nat) t v,Tryz.f4.params[j]?=some t→args[j]?=some v→Value.okWide Tryz.prog W .any base t v:=hval0
 have hW':=hW
 obtain ⟨p,q,hA0,hV,rfl,_,_⟩:=hW
 have hA:DataW.TrodAll enc Tryz.prog W 0 (fun _=>true) true Tryz.f4.params.toList args.toList ds p:=hA0
 have hsz1:(DataW.weightsEach Tryz.prog (Tryz.f4.params.toList ++ Rows.defaultcostChargeSpec.plain.varTypes Tryz.prog) (ds ++ gs)).all (·≤reachBytes)=true:=hsz
 obtain ⟨rfl,rfl⟩:=trodVars_none hV
 rw [Tryz.params4] at hsz1 hval hA
 clear hA0 hval0 hsz hc hL hV
 obtain ⟨v1,vs1,d1,ds1,p1,q1,e1,rfl,rfl,h1,hA⟩:=trodAll_cons hA
 obtain ⟨v2,vs2,d2,ds2,p2,q2,rfl,rfl,rfl,h2,hA⟩:=trodAll_cons hA
 obtain ⟨v3,vs3,d3,ds3,p3,q3,rfl,rfl,rfl,h3,hA⟩:=trodAll_cons hA
 obtain ⟨v4,vs4,d4,ds4,p4,q4,rfl,rfl,rfl,h4,hA⟩:=trodAll_cons hA
 obtain ⟨v5,vs5,d5,ds5,p5,q5,rfl,rfl,rfl,h5,hA⟩:=trodAll_cons hA
 obtain ⟨v6,vs6,d6,ds6,p6,q6,rfl,rfl,rfl,h6,hA⟩:=trodAll_cons hA
 obtain ⟨v7,vs7,d7,ds7,p7,q7,rfl,rfl,rfl,h7,hA⟩:=trodAll_cons hA
 obtain ⟨rfl,rfl,rfl⟩:=trodAll_nil hA
 obtain rfl:args = #[v1,v2,v3,v4,v5,v6,v7]:=by rw [← Array.toArray_toList (xs:=args),e1]
 clear hA e1
 obtain ⟨D1,rfl,b1⟩:=v_u8 (hval 0 _ _ rfl rfl) h1
 obtain ⟨a2,n2,c2,f2,rfl,o2⟩:=val_slice Tryz.underlying22 (hval 1 _ _ rfl rfl) h2
 obtain ⟨w2,m2,D2,e2,l2,s2,b2⟩:=x_u16s o2 (light_arg hsz1 (j:=1) rfl rfl)
 obtain rfl:w2 = .slice a2 n2 c2:=by simpa using e2.symm
 obtain ⟨a3,n3,c3,f3,rfl,o3⟩:=val_slice Tryz.underlying23 (hval 2 _ _ rfl rfl) h3
 obtain ⟨w3,m3,D3,e3,l3,s3,b3⟩:=x_arrs o3 (light_arg hsz1 (j:=2) rfl rfl)
 obtain rfl:w3 = .slice a3 n3 c3:=by simpa using e3.symm
 obtain ⟨a4,n4,c4,f4,rfl,o4⟩:=val_slice Tryz.underlying41 (hval 3 _ _ rfl rfl) h4
 obtain ⟨w4,m4,D4,e4,l4,s4,b4⟩:=x_arrs3 o4 (light_arg hsz1 (j:=3) rfl rfl)
 obtain rfl:w4 = .slice a4 n4 c4:=by simpa using e4.symm
 obtain ⟨a5,n5,c5,f5,rfl,o5⟩:=val_slice Tryz.underlying41 (hval 4 _ _ rfl rfl) h5
 obtain ⟨w5,m5,D5,e5,l5,s5,b5⟩:=x_arrs3 o5 (light_arg hsz1 (j:=4) rfl rfl)
 obtain rfl:w5 = .slice a5 n5 c5:=by simpa using e5.symm
 obtain ⟨a6,n6,c6,f6,rfl,o6⟩:=val_slice Tryz.underlying22 (hval 5 _ _ rfl rfl) h6
 obtain ⟨w6,m6,D6,e6,l6,s6,b6⟩:=x_u16s o6 (light_arg hsz1 (j:=5) rfl rfl)
 obtain rfl:w6 = .slice a6 n6 c6:=by simpa using e6.symm
 obtain ⟨D7,rfl,b7⟩:=v_u16 (hval 6 _ _ rfl rfl) h7
 exact law_post rfl rfl rfl (by kernel_rfl) hW' (law_charge b1 b7 s2 b2 s3 b3 l3 s4 b4 l4 s5 b5 l5 s6 b6)
end Go.Proofs.Xe
