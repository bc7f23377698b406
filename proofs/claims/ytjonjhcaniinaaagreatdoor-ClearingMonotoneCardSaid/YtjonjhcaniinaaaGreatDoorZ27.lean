/- agu: what they pay Qz in all; the next Qv at which the rates change. am9: anW and their rates. -/
import Derived.Test.YtjonjhcaniinaaaGreatDoorZ26
set_option linter.unusedSimpArgs false
set_option linter.unusedVariables false
set_option maxHeartbeats 8000000
namespace Go.Proofs.Xe
open Go.RowKit Go.Proofs.Ins
theorem Qs : ∀ l:List Int,ones l.length (fun i=>B.int .i64 (ix l i))=l.map (B.int .i64)
 | []=>rfl
 | x::l=>by
  show [B.int .i64 x] ++ bC l.length (fun i=>[B.int .i64 (ix l i)])=_
  have:=Qs l
  unfold ones at this
  rw [this];rfl
theorem Qu (φ:Ph) : ∀ l:List Int,jJ φ (l.map (B.int .i64)) (l.map (Value.int .i64))
 | []=>trivial
 | _::l=>⟨rfl,Qu φ l⟩
noncomputable def acQ (l:List Int) (σ:St):Option (V×St):=if l.length=0 then some (.c .aW,σ) else some (.c (.sl σ.ah 0 l.length .opn),⟨hset σ.h σ.ah ⟨ones l.length (fun i=>.int .i64 (ix l i)),some (1,3)⟩,σ.ah+1⟩)
noncomputable section
open Classical in
def acR (args:List V) (σ:St):Option (V×St):=match args with
 | [.agg [v]]=>if h : ∃ a,fE (fun _=>True) σ.h v a∧a.length≤1000000∧a.flatten.length≤1000000 then acQ (tu (Classical.choose h)) σ else none
 | _=>none
def Zn (f:Nat) (args:List V) (σ:St):Option (V×St) :=
 if f=27 then aci args σ
 else if f=90 then acR args σ
 else none
end
theorem agi {p:Nat→Prop} {σ:St} {v:B} {a:eU} (ha:fE p σ.h v a) (h1:a.length≤1000000) (h2:a.flatten.length≤1000000):acR [.agg [v]] σ=acQ (tu a) σ:=by
 have h : ∃ a,fE (fun _=>True) σ.h v a∧a.length≤1000000∧a.flatten.length≤1000000:=⟨a,ha.keep (fun _ _=>rfl) fun _ _=>trivial,h1,h2⟩
 unfold acR
 dsimp only
 rw [dif_pos h,(Classical.choose_spec h).1.uniq ha]
theorem acS {args:List V} {σ σ' : St} {v:V} (h:acR args σ=some (v,σ')) : ∃ t a,args=[.agg [t]]∧acQ (tu a) σ=some (v,σ')∧fE (fun _=>True) σ.h t a∧a.length≤1000000∧a.flatten.length≤1000000:=by
 unfold acR at h
 split at h
 ·next t =>
  split at h
  ·next hx=>exact ⟨t,_,rfl,h,Classical.choose_spec hx⟩
  ·cases h
 ·cases h
theorem agj (f:Nat) (args:List V) (σ:St) (v:V) (σ' : St) (h:Zn f args σ=some (v,σ')):okF Tryz.prog f∧∀ (N:Nat) (w0:World) (φ:Ph) (w:World) (aF:Array Value),Rel N w0 φ σ w→sV φ args aF.toList →
  Calls Tryz.prog f aF w fun e w'=>∃ cv,e = .returned cv∧∃ φ',Ext σ.ah φ φ'∧Rel N w0 φ' σ' w'∧RV φ' v cv∧σ.ah≤σ'.ah:=by
 unfold Zn at h
 split at h
 ·next e =>
  subst e
  obtain ⟨rfl,ev,dv,g,rfl,rfl,h1,h2⟩:=acj h
  refine ⟨dJ (by kernel_rfl),fun N w0 φ w aF hR ha=>?_⟩
  obtain ⟨u,rfl,hu⟩:=lY ha
  exact (Iz (InW w) g u w (h1.un hR hu) h2 fun x hx=>hx).mono fun e w' he=>⟨_,he.1,φ,Ext.refl _ _,hR.below he.2,rfl,Nat.le_refl _⟩
 ·split at h
  ·next e =>
   subst e
   obtain ⟨t,a,rfl,h3,h1,la,lf⟩:=acS h
   refine ⟨dJ (by kernel_rfl),fun N w0 φ w aF hR ha=>?_⟩
   obtain ⟨u,rfl,hu⟩:=lY ha
   obtain ⟨r,rfl,hr⟩:=hu
   obtain ⟨rl⟩:=r
   match rl,hr with
   | [tv],⟨ht,_⟩ =>
    refine (Ed (InW w) tv a w (h1.un hR ht) (by omega) lf).mono ?_
    rintro e w' ⟨v',l,rfl,-,-,ho,hb,hl,hn⟩
    rw [← hl] at h3
    unfold acQ at h3
    split at h3
    ·next h0 =>
     cases h3
     exact ⟨_,rfl,φ,Ext.refl _ _,hR.below hb,hn (List.eq_nil_of_length_eq_zero h0),Nat.le_refl _⟩
    ·next h0 =>
     cases h3
     obtain ⟨⟨-,h4⟩,-⟩:=ho
     rcases h4 with ⟨-,h4⟩|⟨c,cap,cur,rfl,hc,hg,hnc,hm,hs,hx⟩
     ·exact absurd h4 h0
     ·have hN:σ.new ⟨ones l.length (fun i=>.int .i64 (ix l i)),some (1,3)⟩=some (σ.ah,⟨hset σ.h σ.ah ⟨ones l.length (fun i=>.int .i64 (ix l i)),some (1,3)⟩,σ.ah+1⟩):=jH _ _
      rw [WU,Nat.mul_one] at hx
      have hol:(ones l.length fun i=>B.int .i64 (ix l i)).length=l.length:=by rw [Qg,Nat.mul_one]
      have hcl:c<w'.heap.size:=(Array.getElem?_eq_some_iff.mp hg).1
      refine ⟨_,rfl,_,uz φ σ.ah (c,cap),(hR.below hb).new hN (w':=w') ⟨rfl,rfl,rfl,Nat.le_refl _,fun _ _ _=>rfl⟩ (Nat.le_trans hR.size hc) hcl (fun i p hi _ e=>?_) (.inl ⟨AQ (by decide),cur,3,hg,?_,?_,fun e t he=>?_⟩),.inl ⟨(c,cap),cap,fK _ _ _,rfl,hnc,?_,rfl,rfl⟩,by show σ.ah≤σ.ah+1;omega⟩
      ·have:=hR.lo i p hi
       omega
      ·show jJ φ (ones l.length fun i=>B.int .i64 (ix l i)) (cur.toList.take (ones l.length fun i=>B.int .i64 (ix l i)).length)
       rw [hol,hx,Qs]
       exact Qu φ l
      ·show (ones l.length fun i=>B.int .i64 (ix l i)).length≤cur.size
       rw [hol,hs];omega
      ·cases he
       exact ⟨rfl,hs,hm⟩
      ·have:maxLen≤9223372036854775807:=by decide
       omega
  ·cases h
noncomputable def Zo (f:Nat) (args:List V) (σ:St):Option (V×St):=Zn f args σ
theorem agk (f:Nat) (args:List V) (σ:St) (v:V) (σ' : St) (h:Zo f args σ=some (v,σ')):okF Tryz.prog f∧∀ (N:Nat) (w0:World) (φ:Ph) (w:World) (aF:Array Value),Rel N w0 φ σ w→sV φ args aF.toList →
  Calls Tryz.prog f aF w fun e w'=>∃ cv,e = .returned cv∧∃ φ',Ext σ.ah φ φ'∧Rel N w0 φ' σ' w'∧RV φ' v cv∧σ.ah≤σ'.ah:=agj f args σ v σ' h
def E8 (f:Nat):Prop:=okF Tryz.prog f∧∀ w,Calls Tryz.prog f #[] w fun e w'=>e = .returned (.bool true)∧Below w.heap.size w w'
def awN:List Nat:=[
 13,
 1000000]
noncomputable section
open Classical in
def agl (f:Nat) (args:List V) (σ:St):Option (V×St):=bif awN.contains f then (match args with|[]=>if E8 f then some (.c (.bool true),σ) else none|_=>none) else none
def NR (f:Nat) (args:List V) (σ:St):Option (V×St):=match Uf f args σ with
 | some r=>some r
 | none=>match Zo f args σ with
  | some r=>some r
  | none=>agl f args σ
end
theorem agm (f:Nat) (args:List V) (σ:St) (v:V) (σ' : St) (h:NR f args σ=some (v,σ')):okF Tryz.prog f∧∀ (N:Nat) (w0:World) (φ:Ph) (w:World) (aF:Array Value),Rel N w0 φ σ w→sV φ args aF.toList →
  Calls Tryz.prog f aF w fun e w'=>∃ cv,e = .returned cv∧∃ φ',Ext σ.ah φ φ'∧Rel N w0 φ' σ' w'∧RV φ' v cv∧σ.ah≤σ'.ah:=by
 unfold NR at h
 split at h
 ·next r hr=>cases h;exact ae6 f args σ v σ' hr
 ·split at h
  ·next r hr=>cases h;exact agk f args σ v σ' hr
  ·unfold agl at h
   cases hb:awN.contains f with
   | false=>rw [hb] at h;cases h
   | true =>
    rw [hb] at h
    simp only [cond_true] at h
    split at h
    ·split at h
     ·next ha =>
      cases h
      refine ⟨ha.1,fun N w0 φ w aF hR hargs=>?_⟩
      obtain ⟨l⟩:=aF
      match l,hargs with
      | [],_=>exact (ha.2 w).mono fun e w' he=>⟨_,he.1,φ,Ext.refl _ _,hR.below he.2,rfl,Nat.le_refl _⟩
     ·cases h
    ·cases h
class UM (E:Env):Prop where
 a : ∀ f args σ r,NR f args σ=some r→E.orc f args σ=some r
instance {E:Env} [h:UM E]:wE E:=⟨fun f args σ v hv=>h.a f args σ _ (by unfold NR Uf;rw [hv])⟩
theorem Du {E:Env} [hE:UM E] {f:Nat} {args:List V} {v:V} {σ σ2:St} {K:V→St→Prop} (h:NR f args σ=some (v,σ2)):aT E f args σ K=K v σ2:=by
 refine propext ⟨fun ⟨n,v',σ',h1,h2⟩=>?_,fun hk=>PZ (hE.a f args σ _ h) hk⟩
 have h3:fQ E 1 f args σ=some (v,σ2):=by rw [fQ];unfold AP;rw [hE.a f args σ _ h]
 have a:=jT (show n≤n+1 by omega) f args σ _ h1
 have b:=jT (show 1≤n+1 by omega) f args σ _ h3
 rw [a] at b
 cases b
 exact h2
section
variable {E:Env} [UM E] {σ:St} {K:V→St→Prop}
end
end Go.Proofs.Xe
namespace Go.Proofs.Xe
open Go Go.RowKit Go.Proofs.Ins
noncomputable section
noncomputable def om {α β:Type} (f:α→Option β):List α→Option (List β)
 | []=>some []
 | x::l=>match f x,om f l with|some y,some r=>some (y::r)|_,_=>none
noncomputable def fL {α:Sort _} : List Nat→(List Nat→α)→α
 | [],k=>k []
 | x::l,k=>fN x fun x=>fL l fun l=>k (x::l)
noncomputable def tB:Value→Option B
 | .int k n=>some (.int k n)
 | .bool b=>some (.bool b)
 | .string s=>bif Nat.beq s.size 0 then some (.str ⟨#[]⟩) else none
 | .pointer none=>some .MS
 | .slice none 0 0=>some .aW
 | _=>none
noncomputable def tV:Value→Option V
 | .agg r=>(om tB r.toList).map .agg
 | .nilFunc=>some .GU
 | v=>(tB v).map .c
noncomputable def tO:Operand→Option O
 | .tmp t=>some (.t t)
 | .const v=>(tV v).map .k
 | .func f=>some (.k (.fn f []))
 | _=>none
noncomputable def tOO:Option Operand→Option (Option O)
 | none=>some none
 | some x=>(tO x).map some
noncomputable def tZ (P:Program) (t:TypeId):Option (List B):=match P.info? t with
 | some i=>(match i.zero with|some z=>om tB z.cells.toList|none=>none)
 | none=>none
noncomputable def tTy (P:Program) (t:TypeId):Option (Nat×Bool):=match P.info? t,P.underlying t with
 | some i,some d=>fN i.size fun n=>some (n,alM d)
 | _,_=>none
noncomputable def tEl (P:Program) (t:TypeId):Option TypeId:=match P.underlying t with|some (.slice e)=>some e|_=>none
noncomputable def tSz (P:Program) (t:TypeId):Option Nat:=match P.info? t with|some i=>fN i.size some|none=>none
noncomputable def tBy (P:Program) (t:TypeId):Option Nat:=match P.info? t with|some i=>fN i.bytes some|none=>none
noncomputable def tPs (g:Nat→Option (Nat×Nat)):List (Nat×Operand)→Option (List (Nat×Nat×O)):=om fun x=>match g x.1,tO x.2 with|some p,some y=>fN p.1 fun a=>fN p.2 fun b=>some (a,b,y)|_,_=>none
noncomputable def eqK:BinOp→Option Bool
 | .eql=>some true
 | .neq=>some false
 | _=>none
noncomputable def tEq (P:Program) (p:Bool) (t:TypeId) (x:O) (y:Operand) (z:O):Option oI:=match P.underlying t with
 | some .bool=>some (.eqb p x z)
 | some (.struct _)=>bif Py P t then some (.AA p x z) else some (.Az p x z)
 | some (.slice _)=>some (.nil 0 p x)
 | some (.pointer _)=>some (.nil 1 p x)
 | some (.func ..)=>some (.nil 2 p x)
 | _=>none
noncomputable def tOp (P:Program):Op→Option oI
 | .move x|.assign x=>do some (.mov (← tO x))
 | .pick c a b=>do some (.pick (← tO c) (← tO a) (← tO b))
 | .load t x=>do
  let g←tTy P t
  some (.load g.1 g.2 (← tO x))
 | .store t x u=>do some (.store (← tSz P t) (← tO x) (← tO u))
 | .fieldAddr s x f=>do
  let fd←yA P s f
  some (.wU fd.offset (← tO x))
 | .field s x f=>do
  let fd←yA P s f
  let g←tTy P fd.type
  some (.field fd.offset g.1 g.2 (← tO x))
 | .indexAddr t x i=>match P.underlying t,i with
  | some (.slice el),i=>do some (.yX (← tSz P el) (← tO x) (← tO i))
  | some (.array _ el),.const (.int _ (.ofNat j))=>do
   let n←tSz P el
   let y←tO x
   fN (j*n) fun m=>some (.wU m y)
  | _,_=>none
 | .extract x i=>do some (.ext i (← tO x))
 | .binOp b t x y _=>do
  let x'←tO x
  let y'←tO y
  match eqK b with
  | some p=>(match tEq P p t x' y y' with|some r=>some r|none=>some (.bin b x' y'))
  | none=>some (.bin b x' y')
 | .unOp .not _ x=>do some (.not (← tO x))
 | .convert _ d x=>match P.underlying d with
  | some (.int k)=>do some (.conv k (← tO x))
  | _=>none
 | .build t ps=>match P.underlying t with
  | some (.struct fs)=>do
   let pl←placesOf P fs.toList
   some (.build (← tZ P t) (← tPs (fun i=>pl[i]?) ps.toList))
  | _=>none
 | .makeMap t none=>bif Nat.beq t 104 then some .GX else some .GV
 | .lookup _ m k false=>do some (.lookup (← tO m) (← tO k))
 | .mapUpdate _ m k v=>do some (.TB (← tO m) (← tO k) (← tO v))
 | .makeFunc (.func f) _ cs=>do some (.MV f (← om tO cs.toList))
 | .slice t x lo hi mx=>do
  let e←tEl P t
  some (.slice (← tSz P e) (← tO x) (← tOO lo) (← tOO hi) (← tOO mx))
 | .nilCheck x=>do some (.Jv (← tO x))
 | .alloc e=>do some (.alloc (← tZ P e))
 | .box _ x=>do some (.box (← tO x))
 | .makeSlice t l c=>do
  let e←tEl P t
  some (.Et (← tBy P e) (← tZ P e) (← tO l) (← tO c))
 | .buildSlice t len ps=>do
  let e←tEl P t
  let n←tSz P e
  some (.bsl n len (← tZ P e) (← tPs (fun i=>some (i*n,n)) ps.toList))
 | .call c=>match c.callee,c.args.toList,c.argTypes.toList with
  | .value f,xs,_=>do some (.call (← tO f) (← om tO xs))
  | .builtin .len,[x],_=>do some (.len (← tO x))
  | .builtin .min,[x,y],_=>do some (.min2 (← tO x) (← tO y))
  | .builtin .append,[s,x],[t,_]=>do
   let e←tEl P t
   some (.app e (← tSz P e) (← tBy P e) (← tO s) (← tO x))
  | _,_,_=>none
 | _=>none
noncomputable def tAO (P:Program) (ops:Array Oper) (o:Oper):Option AO:=match tOp P o.op with
 | some a=>(match o.guard with
  | none=>some ⟨o.dst,none,a⟩
  | some (j,b)=>(match (ops[j]?).bind (·.dst) with|some d=>some ⟨o.dst,some (d,b),a⟩|none=>none))
 | none=>none
noncomputable def uni:List Nat→List Nat→List Nat
 | [],l=>l
 | x::r,l=>bif l.contains x then uni r l else uni r (x::l)
noncomputable def ptE (acc:List (List Nat)):List Edge→List Nat→List Nat
 | [],l=>l
 | e::r,l=>bif Region.binds .any e then fL (uni (e.on::acc.getD e.on []) l) (ptE acc r) else ptE acc r l
noncomputable def ptL {α:Sort _} : List Oper→List (List Nat)→(List (List Nat)→α)→α
 | [],acc,k=>k acc
 | o::r,acc,k=>fL (ptE acc o.after.toList []) fun l=>ptL r (acc ++ [l]) k
noncomputable def akn:List AO→Nat→List Nat
 | [],_=>[]
 | a::l,i=>bif xu a.op.kind then akn l (i+1) else i::akn l (i+1)
noncomputable def ahE:List AO→Nat→Nat→Option Nat
 | [],_,_=>none
 | a::l,i,t=>bif (match a.dst with|some d=>Nat.beq d t|none=>false) then some i else ahE l (i+1) t
noncomputable def WW:List Operand→List Nat
 | []=>[]
 | .tmp t::l=>t::WW l
 | _::l=>WW l
noncomputable def ahF (aos:List AO) (w:List Nat):List Nat→List Nat×List Nat
 | []=>([],[])
 | t::l=>match ahE aos 0 t,ahF aos w l with
  | some p,(us,os)=>bif w.contains p then (uni [p] us,os) else (us,uni [t] os)
  | none,r=>r
noncomputable def UN (w:List Nat):List Nat→Nat→Nat→Nat
 | [],_,b=>b
 | x::l,k,b=>bif w.contains x then UN w l (k+1) k else UN w l (k+1) b
noncomputable def am2 (pt:List (List Nat)) (acts:List Nat) (aos:List AO):List Oper→List AO→Nat→List (Nat×DO)
 | o::r,a::l,i =>
  let w:=pt.getD i []
  match ahF aos w (match a.g with|some (t,_)=>t::WW o.op.operands.toList|none=>WW o.op.operands.toList) with
  | (us,os)=>fL us fun us=>fL os fun os=>fN (UN w acts 1 0) fun s=>fN i fun i=>(s,⟨i,us,os,a⟩)::am2 pt acts aos r l (i+1)
 | _,_,_=>[]
noncomputable def qOf (s:Nat):List (Nat×DO)→(List DO→Option Dr)→Option Dr
 | [],k=>k []
 | (t,d)::l,k=>bif Nat.beq t s && xu d.o.op.kind then qOf s l fun r=>k (d::r) else qOf s l k
noncomputable def ahG (x:Nat):List (Nat×DO)→Option DO
 | []=>none
 | (_,d)::l=>bif Nat.beq d.i x then some d else ahG x l
noncomputable def tDr (Df:List (Nat×DO)):List Nat→Nat→Option Dr
 | [],s=>qOf s Df fun q=>some (.fin q)
 | x::r,s=>match ahG x Df,tDr Df r (s+1) with
  | some d,some D=>qOf s Df fun q=>some (.act q d D)
  | _,_=>none
noncomputable def dsL:List AO→List Nat
 | []=>[]
 | a::l=>match a.dst with|some d=>d::dsL l|none=>dsL l
noncomputable def aoF (P:Program) (ops:Array Oper):Bool→Option AC
 | false=>(om (tAO P ops) ops.toList).map .ops
 | true=>match om (tAO P ops) ops.toList with
  | some aos=>ptL ops.toList [] fun pt=>fL (akn aos 0) fun acts=>(match tDr (am2 pt acts aos ops.toList aos 0) acts 0 with
   | some D=>fL (dsL aos) fun ds=>some (.drawn D pt ds)
   | none=>none)
  | none=>none
noncomputable def tC (P:Program):Code→Option AC
 | .skip|.label _=>some .skip
 | .region _ ops dr=>aoF P ops dr
 | .seq a b=>match tC P a,tC P b with|some x,some y=>some (.seq x y)|_,_=>none
 | .cond c a b=>match tO c,tC P a,tC P b with|some z,some x,some y=>some (.cond z x y)|_,_,_=>none
 | .block i a=>match tC P a with|some x=>some (.block i x)|none=>none
 | .loop a=>match tC P a with|some x=>some (.loop x)|none=>none
 | .exit i=>some (.exit i)
 | .ret=>some .ret
 | _=>none
noncomputable def ako (P:Program):List ResultVar→Option (List (Nat×Option (Nat×Bool)))
 | []=>some []
 | .tmp t::r=>match ako P r with|some l=>some ((t,none)::l)|none=>none
 | .cell t ty::r=>match tTy P ty,ako P r with|some g,some l=>some ((t,some g)::l)|_,_=>none
noncomputable def tG (P:Program) (f:Nat):Option AF:=match P.funcs[f]? with
 | some fn=>(match fn.body with
  | some c=>(match tC P c,ako P fn.results.toList with
   | some b,some r=>fN fn.ntmps fun n=>some ⟨n,b,r⟩
   | _,_=>none)
  | none=>none)
 | none=>none
noncomputable def tF (P:Program) (f:Nat):Option AF:=match tG P f with
 | some F=>bif PN P f F then some F else none
 | none=>none
theorem am3 {P:Program} {f:Nat} {F:AF} (h:tG P f=some F) (hi:PN P f F=true):tF P f=some F:=by
 unfold tF
 rw [h]
 dsimp only
 rw [hi]
 rfl
theorem ahH {P:Program} {f:Nat} {F:AF} (h:tF P f=some F):PN P f F=true:=by
 unfold tF at h
 split at h
 ·next F' _ =>
  cases hi:PN P f F' with
  | false=>rw [hi] at h;cases h
  | true=>rw [hi] at h;cases h;exact hi
 ·cases h
end
theorem gK:ByteArray.mk (Array.mk [])=⟨#[]⟩:=rfl
end Go.Proofs.Xe
namespace Go.Proofs.Xe
open Go.Proofs
set_option maxRecDepth 1000000
set_option maxHeartbeats 8000000
noncomputable def EN:Env:=⟨tF Tryz.prog,NR⟩
instance apu:UM EN:=⟨fun _ _ _ _ h=>h⟩
theorem am4:KF Tryz.prog EN:=by
 refine ⟨fun f F h=>?_,fun f args σ v σ' h=>agm f args σ v σ' h⟩
 unfold EN at h
 exact ahH h
structure wJ (k:Nat) where
 a:AF
 g:tG Tryz.prog k=some a
 i:PN Tryz.prog k a=true
 o : ∀ args σ,EN.orc k args σ=none
theorem wJ.h {k:Nat} (b:wJ k):EN.fns k=some b.a:=am3 b.g b.i
noncomputable def jA:wJ 5:=⟨_,by conv=>(lhs;reduce;simp only [gK]),by kernel_rfl,fun _ _=>rfl⟩
noncomputable def zG:wJ 7:=⟨_,by conv=>(lhs;reduce;simp only [gK]),by kernel_rfl,fun _ _=>rfl⟩
noncomputable def qO:wJ 10:=⟨_,by conv=>(lhs;reduce;simp only [gK]),by kernel_rfl,fun _ _=>rfl⟩
noncomputable def xO:wJ 15:=⟨_,by conv=>(lhs;reduce;simp only [gK]),by kernel_rfl,fun _ _=>rfl⟩
noncomputable def xP:wJ 16:=⟨_,by conv=>(lhs;reduce;simp only [gK]),by kernel_rfl,fun _ _=>rfl⟩
noncomputable def qP:wJ 19:=⟨_,by conv=>(lhs;reduce;simp only [gK]),by kernel_rfl,fun _ _=>rfl⟩
noncomputable def zH:wJ 25:=⟨_,by conv=>(lhs;reduce;simp only [gK]),by kernel_rfl,fun _ _=>rfl⟩
noncomputable def IB:wJ 26:=⟨_,by conv=>(lhs;reduce;simp only [gK]),by kernel_rfl,fun _ _=>rfl⟩
noncomputable def nG:wJ 28:=⟨_,by conv=>(lhs;reduce;simp only [gK]),by kernel_rfl,fun _ _=>rfl⟩
noncomputable def iW:wJ 29:=⟨_,by conv=>(lhs;reduce;simp only [gK]),by kernel_rfl,fun _ _=>rfl⟩
noncomputable def nH:wJ 31:=⟨_,by conv=>(lhs;reduce;simp only [gK]),by kernel_rfl,fun _ _=>rfl⟩
noncomputable def jh:wJ 32:=⟨_,by conv=>(lhs;reduce;simp only [gK]),by kernel_rfl,fun _ _=>rfl⟩
noncomputable def iF:wJ 33:=⟨_,by conv=>(lhs;reduce;simp only [gK]),by kernel_rfl,fun _ _=>rfl⟩
noncomputable def Dw:wJ 49:=⟨_,by conv=>(lhs;reduce;simp only [gK]),by kernel_rfl,fun _ _=>rfl⟩
noncomputable def zI:wJ 50:=⟨_,by conv=>(lhs;reduce;simp only [gK]),by kernel_rfl,fun _ _=>rfl⟩
noncomputable def oM:wJ 53:=⟨_,by conv=>(lhs;reduce;simp only [gK]),by kernel_rfl,fun _ _=>rfl⟩
noncomputable def fP:wJ 54:=⟨_,by conv=>(lhs;reduce;simp only [gK]),by kernel_rfl,fun _ _=>rfl⟩
noncomputable def iL:wJ 55:=⟨_,by conv=>(lhs;reduce;simp only [gK]),by kernel_rfl,fun _ _=>rfl⟩
noncomputable def iY:wJ 56:=⟨_,by conv=>(lhs;reduce;simp only [gK]),by kernel_rfl,fun _ _=>rfl⟩
noncomputable def iZ:wJ 57:=⟨_,by conv=>(lhs;reduce;simp only [gK]),by kernel_rfl,fun _ _=>rfl⟩
noncomputable def kG:wJ 59:=⟨_,by conv=>(lhs;reduce;simp only [gK]),by kernel_rfl,fun _ _=>rfl⟩
noncomputable def oO:wJ 60:=⟨_,by conv=>(lhs;reduce;simp only [gK]),by kernel_rfl,fun _ _=>rfl⟩
noncomputable def dU:wJ 69:=⟨_,by conv=>(lhs;reduce;simp only [gK]),by kernel_rfl,fun _ _=>rfl⟩
noncomputable def lC:wJ 70:=⟨_,by conv=>(lhs;reduce;simp only [gK]),by kernel_rfl,fun _ _=>rfl⟩
noncomputable def jV:wJ 92:=⟨_,by conv=>(lhs;reduce;simp only [gK]),by kernel_rfl,fun _ _=>rfl⟩
noncomputable def oP:wJ 93:=⟨_,by conv=>(lhs;reduce;simp only [gK]),by kernel_rfl,fun _ _=>rfl⟩
noncomputable def ji:wJ 94:=⟨_,by conv=>(lhs;reduce;simp only [gK]),by kernel_rfl,fun _ _=>rfl⟩
noncomputable def jB:wJ 95:=⟨_,by conv=>(lhs;reduce;simp only [gK]),by kernel_rfl,fun _ _=>rfl⟩
noncomputable def jC:wJ 96:=⟨_,by conv=>(lhs;reduce;simp only [gK]),by kernel_rfl,fun _ _=>rfl⟩
noncomputable def jW:wJ 97:=⟨_,by conv=>(lhs;reduce;simp only [gK]),by kernel_rfl,fun _ _=>rfl⟩
noncomputable def eH:wJ 110:=⟨_,by conv=>(lhs;reduce;simp only [gK]),by kernel_rfl,fun _ _=>rfl⟩
noncomputable def jc:wJ 129:=⟨_,by conv=>(lhs;reduce;simp only [gK]),by kernel_rfl,fun _ _=>rfl⟩
noncomputable def dY:wJ 130:=⟨_,by conv=>(lhs;reduce;simp only [gK]),by kernel_rfl,fun _ _=>rfl⟩
noncomputable def jd:wJ 131:=⟨_,by conv=>(lhs;reduce;simp only [gK]),by kernel_rfl,fun _ _=>rfl⟩
end Go.Proofs.Xe
namespace Go.Proofs.Ins
/-! ### apv over the numbers below n -/
def aC:Nat→(Nat→Rat)→Rat
 | 0,_=>0
 | n+1,f=>aC n f+f n
theorem bI {n:Nat} {f g:Nat→Rat} (h : ∀ i,i<n→f i=g i):aC n f=aC n g:=by
 induction n with
 | zero=>rfl
 | succ n ih=>rw [aC,aC,ih fun i hi=>h i (by omega),h n (by omega)]
theorem dF {n:Nat} {f:Nat→Rat} (h : ∀ i,i<n→f i=0):aC n f=0:=by
 induction n with
 | zero=>rfl
 | succ n ih=>rw [aC,ih fun i hi=>h i (by omega),h n (by omega)];exact Rat.add_zero 0
theorem dN (n:Nat) (f g:Nat→Rat):aC n (fun i=>f i+g i)=aC n f+aC n g:=by
 induction n with
 | zero=>rw [aC,aC,aC];grind
 | succ n ih=>rw [aC,aC,aC,ih];grind
theorem kP (n:Nat) (f g:Nat→Rat):aC n (fun i=>f i - g i)=aC n f - aC n g:=by
 induction n with
 | zero=>rw [aC,aC,aC];grind
 | succ n ih=>rw [aC,aC,aC,ih];grind
theorem acT (n:Nat) (c:Rat) (f:Nat→Rat):aC n (fun i=>c*f i)=c*aC n f:=by
 induction n with
 | zero=>rw [aC,aC];grind
 | succ n ih=>rw [aC,aC,ih];grind
theorem Zp (n:Nat) (c:Rat) (f:Nat→Rat):aC n (fun i=>f i*c)=aC n f*c:=by
 rw [bI (g:=fun i=>c*f i) fun i _=>Rat.mul_comm _ _,acT,Rat.mul_comm]
theorem vM {n:Nat} {f g:Nat→Rat} (h : ∀ i,i<n→f i≤g i):aC n f≤aC n g:=by
 induction n with
 | zero=>exact Rat.le_refl
 | succ n ih =>
  rw [aC,aC]
  have:=ih fun i hi=>h i (by omega)
  have:=h n (by omega)
  grind
theorem agp {n:Nat} {f:Nat→Rat} (h : ∀ i,i<n→0≤f i):0≤aC n f:=by
 have:=vM (n:=n) (f:=fun _=>0) (g:=f) h
 rwa [dF fun _ _=>rfl] at this
theorem agq {n:Nat} {f g:Nat→Rat} (h : ∀ i,i<n→f i≤g i) (e:aC n g≤aC n f) : ∀ i,i<n→f i=g i:=by
 induction n with
 | zero=>intro i hi;omega
 | succ n ih =>
  rw [aC,aC] at e
  have h1:=vM (n:=n) (f:=f) (g:=g) fun i hi=>h i (by omega)
  have h2:=h n (by omega)
  have h3:=ih (fun i hi=>h i (by omega)) (by grind)
  intro i hi
  by_cases hin:i=n
  ·subst hin;grind
  ·exact h3 i (by omega)
theorem am5 {n:Nat} {f:Nat→Rat} (h : ∀ i,i<n→0≤f i) (e:aC n f≤0) : ∀ i,i<n→f i=0:=by
 intro i hi
 exact (agq (f:=fun _=>0) h (by rw [dF fun _ _=>rfl];exact e) i hi).symm
theorem KU (n m:Nat) (f:Nat→Nat→Rat):aC n (fun i=>aC m fun j=>f i j)=aC m fun j=>aC n fun i=>f i j:=by
 induction n with
 | zero=>rw [aC];exact (dF fun j _=>rfl).symm
 | succ n ih =>
  rw [aC,ih,← dN]
  exact bI fun j _=>rfl
theorem kR {n:Nat} {f:Nat→Rat} {k:Nat} (hk:k<n) (h : ∀ i,i<n→i≠k→f i=0):aC n f=f k:=by
 induction n with
 | zero=>omega
 | succ n ih =>
  rw [aC]
  by_cases e:k=n
  ·subst e
   rw [dF fun i hi=>h i (by omega) (by omega)];grind
  ·rw [ih (by omega) (fun i hi hne=>h i (by omega) hne),h n (by omega) (by omega)];grind
theorem Qw {n:Nat} {f:Nat→Rat} {k:Nat} (hk:k<n) (h : ∀ i,i<n→0≤f i):f k≤aC n f:=by
 induction n with
 | zero=>omega
 | succ n ih =>
  rw [aC]
  by_cases e:k=n
  ·subst e
   have:=agp (n:=k) (f:=f) fun i hi=>h i (by omega)
   grind
  ·have:=ih (by omega) (fun i hi=>h i (by omega))
   have:=h n (by omega)
   grind
/-! ### am6 whose columns have sums of at most 1 -/
def mv (n:Nat) (M:Nat→Nat→Rat) (v:Nat→Rat) (j:Nat):Rat:=aC n fun i=>M j i*v i
structure apw (n:Nat) (M:Nat→Nat→Rat):Prop where
 nn : ∀ j i,j<n→i<n→0≤M j i
 le : ∀ i,i<n→aC n (fun j=>M j i)≤1
/-! ### A flow: what Qv the Bc have again if they have x -/
structure Flow (n:Nat) where
 G:(Nat→Rat)→Nat→Rat
 M:(Nat→Rat)→Nat→Nat→Rat
 mono : ∀ x y,(∀ i,i<n→0≤x i)→(∀ i,i<n→x i≤y i)→∀ j,j<n→G x j≤G y j
 leak : ∀ x y,(∀ i,i<n→0≤x i)→(∀ i,i<n→x i≤y i)→aC n (fun i=>x i - G x i)≤aC n (fun i=>y i - G y i)
 nn : ∀ x,(∀ i,i<n→0≤x i)→∀ j i,j<n→i<n→0≤M x j i
 loc : ∀ x d,(∀ i,i<n→0≤x i)→(∀ i,i<n→0≤d i)→∃ ε,0<ε∧∀ s,0≤s→s≤ε→∀ j,j<n→G (fun i=>x i+s*d i) j=G x j+s*mv n (M x) d j
def Nn (n:Nat) (x:Nat→Rat):Prop:=∀ i,i<n→0≤x i
def Le (n:Nat) (x y:Nat→Rat):Prop:=∀ i,i<n→x i≤y i
def apj (x d:Nat→Rat) (s:Rat) (i:Nat):Rat:=x i+s*d i
theorem Nn.le {n:Nat} {x y:Nat→Rat} (h:Nn n x) (hl:Le n x y):Nn n y:=fun i hi=>Rat.le_trans (h i hi) (hl i hi)
section
variable {n:Nat} (F:Flow n)
/-! ### Clearing vectors -/
def Fix (c:Nat→Rat) (t:Rat) (x:Nat→Rat):Prop:=∀ j,j<n→x j=t*c j+F.G x j
def Pre (c:Nat→Rat) (t:Rat) (y:Nat→Rat):Prop:=∀ j,j<n→t*c j+F.G y j≤y j
def Least (c:Nat→Rat) (t:Rat) (x:Nat→Rat):Prop:=∀ t' y,Nn n y→Pre F c t' y→(t<t'∨(t=1∧t' = 1))→Le n x y
end
/-! ### NS: amR that are paid one after the other -/
abbrev dA:=List (Int×Rat)
def aU:dA→Rat
 | []=>0
 | p::t=>p.2+aU t
def jR:dA→Int→Rat
 | [],_=>0
 | p::t,c=>(if p.1=c then p.2 else 0)+jR t c
def NnT (t:dA):Prop:=∀ p∈t,0≤p.2
theorem Bo {t:dA} (h:NnT t) (c:Int):0≤jR t c:=by
 induction t with
 | nil=>exact Rat.le_refl
 | cons p t ih =>
  have h1:=ih fun q hq=>h q (by simp [hq])
  have h2:=h p (by simp)
  unfold jR
  split <;> grind
theorem NT {t:dA} (h:NnT t) (c:Int):jR t c≤aU t:=by
 induction t with
 | nil=>exact Rat.le_refl
 | cons p t ih =>
  have h1:=ih fun q hq=>h q (by simp [hq])
  have h2:=h p (by simp)
  unfold jR aU
  split <;> grind
theorem sD {t:dA} (h:NnT t):0≤aU t:=Rat.le_trans (Bo h 0) (NT h 0)
abbrev iH:=List dA
def UO (l:iH):Prop:=∀ t∈l,NnT t
def gB:iH→Rat→Int→Rat
 | [],_,_=>0
 | t::l,m,c=>if m<aU t then jR t c*(m/aU t) else jR t c+gB l (m - aU t) c
def ags:iH→Rat→Rat→Int→Rat
 | [],_,_,_=>0
 | t::l,m,r,c=>if m<aU t then jR t c*(r/aU t) else ags l (m - aU t) r c
def akp:iH→Rat→Option Rat
 | [],_=>none
 | t::l,m=>if m<aU t then some (aU t - m) else akp l (m - aU t)
def fF:iH→Rat→Nat
 | [],_=>0
 | t::l,m=>if m<aU t then 0 else fF l (m - aU t)+1
def kS:iH→Rat→Rat
 | [],_=>0
 | t::l,m=>if m<aU t then m else aU t+kS l (m - aU t)
def rE:iH→Rat
 | []=>0
 | t::l=>aU t+rE l
theorem UO.tl {t:dA} {l:iH} (h:UO (t::l)):NnT t∧UO l:=⟨h t (by simp),fun u hu=>h u (by simp [hu])⟩
theorem acU {a b:Rat} (ha:0≤a) (hb:0<b):0≤a/b:=by
 refine Rat.not_lt.mp fun hlt=>?_
 have h1:=Rat.mul_lt_mul_of_pos_right hlt hb
 rw [Rat.div_mul_cancel (by grind)] at h1
 grind
theorem zJ {a b:Rat} (hb:0<b) (h:a≤b):a/b≤1:=by
 refine Rat.not_lt.mp fun hlt=>?_
 have h1:=Rat.mul_lt_mul_of_pos_right hlt hb
 rw [Rat.div_mul_cancel (by grind)] at h1
 grind
theorem acV {a b c:Rat} (hb:0<b) (h:a≤c):a/b≤c/b:=by
 refine Rat.not_lt.mp fun hlt=>?_
 have h1:=Rat.mul_lt_mul_of_pos_right hlt hb
 rw [Rat.div_mul_cancel (by grind),Rat.div_mul_cancel (by grind)] at h1
 grind
theorem Qx {l:iH} (h:UO l) (c:Int):gB l 0 c=0:=by
 induction l with
 | nil=>rfl
 | cons t l ih =>
  obtain ⟨h1,h2⟩:=h.tl
  unfold gB
  split
  ·rw [Rat.div_def,Rat.zero_mul,Rat.mul_zero]
  ·have:=sD h1
   have h3:aU t=0:=by grind
   have:=Bo h1 c
   have:=NT h1 c
   rw [h3,show (0:Rat) - 0=0 by grind,ih h2];grind
theorem UQ {l:iH} (h:UO l) (c:Int) : ∀ {m:Rat},0≤m→0≤gB l m c:=by
 induction l with
 | nil=>intro m _;exact Rat.le_refl
 | cons t l ih =>
  intro m hm
  obtain ⟨h1,h2⟩:=h.tl
  unfold gB
  have:=Bo h1 c
  split
  ·have:=Rat.mul_nonneg this (acU hm (b:=aU t) (by grind));grind
  ·have:=ih h2 (m:=m - aU t) (by grind);grind
theorem Bq {l:iH} (h:UO l) (c:Int) : ∀ {m m' : Rat},0≤m→m≤m'→gB l m c≤gB l m' c:=by
 induction l with
 | nil=>intro m m' _ _;exact Rat.le_refl
 | cons t l ih =>
  intro m m' hm hle
  obtain ⟨h1,h2⟩:=h.tl
  have hc:=Bo h1 c
  unfold gB
  by_cases e:m<aU t
  ·rw [if_pos e]
   by_cases e2:m' < aU t
   ·rw [if_pos e2]
    exact Rat.mul_le_mul_of_nonneg_left (acV (by grind) hle) hc
   ·rw [if_neg e2]
    have a:=Rat.mul_le_mul_of_nonneg_left (zJ (a:=m) (b:=aU t) (by grind) (by grind)) hc
    have b:=UQ h2 c (m:=m' - aU t) (by grind)
    grind
  ·rw [if_neg e,if_neg (by grind)]
   have:=ih h2 (m:=m - aU t) (m':=m' - aU t) (by grind) (by grind)
   grind
theorem acW (l:iH) : ∀ m,fF l m≤l.length:=by
 induction l with
 | nil=>intro m;exact Nat.le_refl _
 | cons t l ih =>
  intro m
  unfold fF
  have:=ih (m - aU t)
  split <;> simp <;> omega
theorem KW {l:iH} (h:UO l) : ∀ {m m' : Rat},0≤m→m≤m'→m - kS l m≤m' - kS l m':=by
 induction l with
 | nil=>intro m m' _ h;unfold kS;grind
 | cons t l ih =>
  intro m m' hm hle
  obtain ⟨h1,h2⟩:=h.tl
  unfold kS
  by_cases e:m<aU t
  ·rw [if_pos e]
   by_cases e2:m' < aU t
   ·rw [if_pos e2];grind
   ·rw [if_neg e2]
    have a:=ih h2 (m:=0) (m':=m' - aU t) Rat.le_refl (by grind)
    have b:kS l 0=0:=by
     clear ih a
     induction l with
     | nil=>rfl
     | cons u l ih2 =>
      obtain ⟨h3,h4⟩:=h2.tl
      unfold kS
      split
      ·rfl
      ·have:=sD h3
       have h5:aU u=0:=by grind
       rw [h5,show (0:Rat) - 0=0 by grind,ih2 (fun x hx=>by
        rcases List.mem_cons.mp hx with rfl|hx
        ·exact h1
        ·exact h4 x hx) h4];grind
    grind
  ·rw [if_neg e,if_neg (by grind)]
   have:=ih h2 (m:=m - aU t) (m':=m' - aU t) (by grind) (by grind)
   grind
/-! ### An UR: a aoG of ranks, and ahI -/
def aO {α:Type} : List α→(α→Rat)→Rat
 | [],_=>0
 | a::l,f=>f a+aO l f
section
variable {α:Type}
theorem jD {l:List α} {f g:α→Rat} (h : ∀ a∈l,f a=g a):aO l f=aO l g:=by
 induction l with
 | nil=>rfl
 | cons a l ih=>unfold aO;rw [h a (by simp),ih fun b hb=>h b (by simp [hb])]
theorem acX (l:List α) (f g:α→Rat):aO l (fun a=>f a+g a)=aO l f+aO l g:=by
 induction l with
 | nil=>unfold aO;grind
 | cons a l ih=>unfold aO;rw [ih];grind
theorem Bv (l:List α) (f g:α→Rat):aO l (fun a=>f a - g a)=aO l f - aO l g:=by
 induction l with
 | nil=>unfold aO;grind
 | cons a l ih=>unfold aO;rw [ih];grind
theorem qc {l:List α} {f g:α→Rat} (h : ∀ a∈l,f a≤g a):aO l f≤aO l g:=by
 induction l with
 | nil=>exact Rat.le_refl
 | cons a l ih =>
  unfold aO
  have:=h a (by simp)
  have:=ih fun b hb=>h b (by simp [hb])
  grind
theorem nI {l:List α} {f:α→Rat} (h : ∀ a∈l,f a=0):aO l f=0:=by
 rw [jD (g:=fun _=>0) h]
 clear h
 induction l with
 | nil=>rfl
 | cons a l ih=>unfold aO;rw [ih];grind
theorem WX {l:List α} {f:α→Rat} (h : ∀ a∈l,0≤f a):0≤aO l f:=by
 have:=qc (f:=fun _=>(0:Rat)) h
 rwa [nI fun _ _=>rfl] at this
theorem qx {n:Nat} (l:List α) (f:α→Nat→Rat):aC n (fun i=>aO l fun a=>f a i)=aO l fun a=>aC n (f a):=by
 induction l with
 | nil=>exact dF fun _ _=>rfl
 | cons a l ih=>unfold aO;rw [dN,ih]
end
structure iG where
 rk:iH
 ps:List (List Nat×iH)
def Eh (e:iG) (x:Rat) (c:Nat):Rat:=gB e.rk x c
def rts (e:iG) (x:Rat) (c:Nat):Rat:=ags e.rk x 1 c
def pooled (e:iG) (c:Nat):Bool:=e.ps.any fun p=>p.1.contains c
def sF (e:iG) (x:Rat) (p:List Nat×iH):Rat:=aO p.1 (Eh e x)
def ptR (e:iG) (x:Rat) (p:List Nat×iH):Rat:=aO p.1 (rts e x)
def wG (e:iG) (x:Rat) (c:Nat):Rat:=(if pooled e c then 0 else Eh e x c)+aO e.ps fun p=>gB p.2 (sF e x p) c
def rsv (e:iG) (x:Rat):Rat:=aO e.ps fun p=>gB p.2 (sF e x p) (-1)
def Zq (e:iG) (x:Rat) (c:Nat):Rat:=(if pooled e c then 0 else rts e x c)+aO e.ps fun p=>ags p.2 (sF e x p) (ptR e x p) c
def am7 (e:iG) (x:Rat):Rat:=aO e.ps fun p=>ags p.2 (sF e x p) (ptR e x p) (-1)
def mF (a b:Rat):Rat:=if a≤b then a else b
def agt (e:iG) (x:Rat):List (List Nat×iH)→Rat→Rat
 | [],g=>g
 | p::l,g=>match akp p.2 (sF e x p) with
  | some d=>if 0<ptR e x p then agt e x l (mF g (d/ptR e x p)) else agt e x l g
  | none=>agt e x l g
def stp (e:iG) (x:Rat):Option Rat:=match akp e.rk x with
 | some g=>some (agt e x e.ps g)
 | none=>none
def am8 (e:iG) (x:Rat):List (List Nat×iH)→Nat
 | []=>0
 | p::l=>(p.2.length - fF p.2 (sF e x p))+am8 e x l
def opn (e:iG) (x:Rat):Nat:=(e.rk.length - fF e.rk x)+am8 e x e.ps
structure UU (e:iG):Prop where
 rk:UO e.rk
 ps : ∀ p∈e.ps,UO p.2
section
variable {e:iG}
theorem acY (h:UU e) {x:Rat} (hx:0≤x) (c:Nat):0≤Eh e x c:=UQ h.rk _ hx
theorem vN (h:UU e) {x:Rat} (hx:0≤x) (p:List Nat×iH):0≤sF e x p:=WX fun _ _=>acY h hx _
theorem IC (h:UU e) {x y:Rat} (hx:0≤x) (hy:x≤y) (p:List Nat×iH):sF e x p≤sF e y p:=qc fun _ _=>Bq h.rk _ hx hy
theorem Qy (h:UU e) {x y:Rat} (hx:0≤x) (hy:x≤y) (c:Nat):wG e x c≤wG e y c:=by
 unfold wG
 have h1:aO e.ps (fun p=>gB p.2 (sF e x p) c)≤aO e.ps (fun p=>gB p.2 (sF e y p) c):=qc fun p hp=>Bq (h.ps p hp) _ (vN h hx p) (IC h hx hy p)
 have h2:Eh e x c≤Eh e y c:=Bq h.rk _ hx hy
 split <;> grind
theorem acZ (h:UU e) {x y:Rat} (hx:0≤x) (hy:x≤y):rsv e x≤rsv e y :=
 qc fun p hp=>Bq (h.ps p hp) _ (vN h hx p) (IC h hx hy p)
theorem UW (h:UU e) {x:Rat} (hx:0≤x) (c:Nat):0≤wG e x c:=by
 unfold wG
 have h1:0≤aO e.ps (fun p=>gB p.2 (sF e x p) c):=WX fun p hp=>UQ (h.ps p hp) _ (vN h hx p)
 have:=acY h hx c
 split <;> grind
theorem div_pos {a b:Rat} (ha:0<a) (hb:0<b):0<a/b:=by
 refine Rat.not_le.mp fun hle=>?_
 have h1:=Rat.mul_le_mul_of_nonneg_right hle (Rat.le_of_lt hb)
 rw [Rat.div_mul_cancel (by grind)] at h1
 grind
end
/-! ### What an UR pays Qz in all -/
theorem KZ {n:Nat} (g:Nat→Rat) : ∀ l:List Nat,l.Nodup→(∀ i∈l,i<n)→aC n (fun i=>if i∈l then g i else 0)=aO l g
 | [],_,_=>dF fun i _=>by simp
 | x::t,hn,hl=>by
  rw [List.nodup_cons] at hn
  have e:aC n (fun i=>if i∈x::t then g i else 0)=aC n fun i=>(if i=x then g x else 0)+if i∈t then g i else 0:=bI fun i _=>by
   by_cases h:i=x
   ·subst h;rw [if_pos (by simp),if_pos rfl,if_neg hn.1];grind
   ·rw [if_neg h]
    by_cases h2:i∈t
    ·rw [if_pos (by simp [h2]),if_pos h2];grind
    ·rw [if_neg (by simp [h,h2]),if_neg h2];grind
  have hd:aC n (fun i=>if i=x then g x else 0)=g x:=by
   rw [kR (hl x (by simp)) fun i _ hne=>if_neg hne,if_pos rfl]
  rw [e,dN,hd,KZ g t hn.2 fun i hi=>hl i (by simp [hi])]
  rfl
def InT (n:Nat) (t:dA):Prop:=∀ p∈t,p.1 = -1∨0≤p.1∧p.1<n
def InL (n:Nat) (l:iH):Prop:=∀ t∈l,InT n t
theorem agv {n:Nat} {t:dA} (h:InT n t):aC n (fun c=>jR t c)+jR t (-1)=aU t:=by
 induction t with
 | nil =>
  have:aC n (fun c:Nat=>jR [] c)=0:=dF fun _ _=>rfl
  rw [this];unfold jR aU;grind
 | cons p t ih =>
  have h1:=ih fun q hq=>h q (by simp [hq])
  have h2:=h p (by simp)
  have e:aC n (fun c=>jR (p::t) c)=aC n (fun c=>if p.1=c then p.2 else 0)+aC n fun c=>jR t c:=by rw [← dN];exact bI fun c _=>rfl
  have e2:jR (p::t) (-1)=(if p.1 = -1 then p.2 else 0)+jR t (-1):=rfl
  have e3:aU (p::t)=p.2+aU t:=rfl
  rw [e,e2,e3]
  rcases h2 with h2|⟨h2,h3⟩
  ·rw [if_pos h2,dF fun c _=>by rw [if_neg (by omega)]];grind
  ·rw [if_neg (by omega)]
   have e4:aC n (fun c:Nat=>if p.1=c then p.2 else 0)=p.2:=by
    rw [kR (k:=p.1.toNat) (by omega) fun i _ hne=>if_neg (by omega),if_pos (by omega)]
   rw [e4];grind
theorem WY {n:Nat} {l:iH} (h:InL n l) : ∀ {m:Rat},0≤m→aC n (fun c=>gB l m c)+gB l m (-1)=kS l m:=by
 induction l with
 | nil =>
  intro m _
  have:aC n (fun c:Nat=>gB [] m c)=0:=dF fun _ _=>rfl
  rw [this];unfold gB kS;grind
 | cons t l ih =>
  intro m hm
  have h1:=agv (h t (by simp))
  have h2:InL n l:=fun u hu=>h u (by simp [hu])
  by_cases e:m<aU t
  ·have e1:aC n (fun c=>gB (t::l) m c)=aC n fun c=>jR t c*(m/aU t):=bI fun c _=>by unfold gB;rw [if_pos e]
   rw [e1,Zp]
   unfold gB kS
   rw [if_pos e,if_pos e,← Rat.add_mul,h1,Rat.mul_comm,Rat.div_mul_cancel (by grind)]
  ·have e1:aC n (fun c=>gB (t::l) m c)=aC n (fun c=>jR t c)+aC n fun c=>gB l (m - aU t) c:=by
    rw [← dN];exact bI fun c _=>by rw [gB,if_neg e]
   rw [e1]
   have:=ih h2 (m:=m - aU t) (by grind)
   have e2:gB (t::l) m (-1)=jR t (-1)+gB l (m - aU t) (-1):=by rw [gB,if_neg e]
   have e3:kS (t::l) m=aU t+kS l (m - aU t):=by rw [kS,if_neg e]
   rw [e2,e3];grind
structure InE (n:Nat) (e:iG):Prop where
 rk : ∀ t∈e.rk,∀ p∈t,0≤p.1∧p.1<n
 ps : ∀ p∈e.ps,InL n p.2
 dis:(e.ps.flatMap (·.1)).Nodup
 mem : ∀ i∈e.ps.flatMap (·.1),i<n
theorem agw {n:Nat} {l:iH} (h : ∀ t∈l,∀ p∈t,0≤p.1∧p.1<n) : ∀ {m:Rat},gB l m (-1)=0:=by
 induction l with
 | nil=>intro m;rfl
 | cons t l ih =>
  intro m
  have h1:jR t (-1)=0:=by
   have h2:=h t (by simp)
   clear ih h
   induction t with
   | nil=>rfl
   | cons p t ih2 =>
    have:=h2 p (by simp)
    unfold jR
    rw [if_neg (by omega),ih2 fun q hq=>h2 q (by simp [hq])];grind
  unfold gB
  rw [h1,ih fun u hu=>h u (by simp [hu])]
  split <;> grind
theorem Zr {α:Type} (l:List α) (f:α→List Nat) (g:Nat→Rat):aO (l.flatMap f) g=aO l fun a=>aO (f a) g:=by
 induction l with
 | nil=>rfl
 | cons a l ih =>
  rw [List.flatMap_cons]
  have : ∀ (u v:List Nat),aO (u ++ v) g=aO u g+aO v g:=fun u v=>by
   induction u with
   | nil=>unfold aO;simp;grind
   | cons x u ih =>
    show g x+aO (u ++ v) g=g x+aO u g+aO v g
    rw [ih];grind
  rw [this,ih];rfl
theorem IE (e:iG) (c:Nat):pooled e c=true↔c∈e.ps.flatMap (·.1):=by
 unfold pooled
 simp
section
variable {n:Nat} {e:iG}
theorem agx (hI:InE n e) {x:Rat} (hx:0≤x):aC n (Eh e x)=kS e.rk x:=by
 have:=WY (n:=n) (l:=e.rk) (fun t ht p hp=>.inr (hI.rk t ht p hp)) hx
 rw [agw hI.rk] at this
 unfold Eh;grind
theorem ac0 (hI:InE n e) (g:Nat→Rat):aC n (fun c=>if pooled e c then 0 else g c)+aO e.ps (fun p=>aO p.1 g)=aC n g:=by
 rw [← Zr,← KZ g _ hI.dis hI.mem,← dN]
 refine bI fun c _=>?_
 by_cases h:c∈e.ps.flatMap (·.1)
 ·rw [if_pos ((IE e c).mpr h),if_pos h];grind
 ·rw [if_neg (fun h2=>h ((IE e c).mp h2)),if_neg h];grind
theorem WZ (hN:UU e) (hI:InE n e) {x:Rat} (hx:0≤x):aC n (wG e x)=kS e.rk x - aO e.ps (fun p=>sF e x p - kS p.2 (sF e x p)) - rsv e x:=by
 have h1:aC n (wG e x)=aC n (fun c=>if pooled e c then 0 else Eh e x c)+aO e.ps fun p=>aC n fun c=>gB p.2 (sF e x p) c:=by
  rw [← qx,← dN];rfl
 have h2:=ac0 hI (Eh e x)
 rw [agx hI hx] at h2
 have h3:aO e.ps (fun p=>aC n fun c=>gB p.2 (sF e x p) c)=aO e.ps (fun p=>kS p.2 (sF e x p)) - rsv e x:=by
  unfold rsv
  rw [← Bv]
  refine jD fun p hp=>?_
  have:=WY (n:=n) (hI.ps p hp) (vN hN hx p)
  grind
 have h4:aO e.ps (fun p=>sF e x p - kS p.2 (sF e x p))=aO e.ps (fun p=>aO p.1 (Eh e x)) - aO e.ps (fun p=>kS p.2 (sF e x p)):=by rw [← Bv];rfl
 rw [h1,h3,h4];grind
theorem QA (hN:UU e) (hI:InE n e) {x y:Rat} (hx:0≤x) (hy:x≤y):x - aC n (wG e x)≤y - aC n (wG e y):=by
 rw [WZ hN hI hx,WZ hN hI (Rat.le_trans hx hy)]
 have h1:=KW hN.rk hx hy
 have h2:=acZ hN hx hy
 have h3:aO e.ps (fun p=>sF e x p - kS p.2 (sF e x p))≤aO e.ps fun p=>sF e y p - kS p.2 (sF e y p) :=
  qc fun p hp=>KW (hN.ps p hp) (vN hN hx p) (IC hN hx hy p)
 grind
end
/-! ### The next Qv at which the rates change -/
structure Dst (e:iG) (x:Rat) (o:Option Rat):Prop where
 yes : ∀ g,o=some g→0<g∧(∀ s,0≤s→s≤g→∀ c,wG e (x+s) c=wG e x c+s*Zq e x c)∧(∀ s,0≤s→s<g→∀ c,Zq e (x+s) c=Zq e x c)∧opn e (x+g)<opn e x
 no:o=none→∀ s,0≤s→∀ c,wG e (x+s) c=wG e x c∧Zq e (x+s) c=0
def ahJ (e:iG) (n:Nat) (z x:Rat):Prop:=(∀ c,c<n→Zq e x c=Zq e z c)∧am7 e x=am7 e z
inductive Nxt (e:iG) (n:Nat) (z:Rat):Rat→Option Rat→Prop where
 | no {x:Rat} (h:stp e x=none):Nxt e n z x none
 | stop {x g:Rat}  (h:stp e x=some g) (hs : ¬ ahJ e n z (x+g)):Nxt e n z x (some (x+g))
 | go {x g:Rat} {o:Option Rat}  (h:stp e x=some g) (hs:ahJ e n z (x+g)) (hr:Nxt e n z (x+g) o):Nxt e n z x o
structure apx (e:iG) (n:Nat) (x:Rat) (o:Option Rat):Prop where
 yes : ∀ y,o=some y→x<y∧(∀ s,0≤s→s≤y - x→∀ c,c<n→wG e (x+s) c=wG e x c+s*Zq e x c)∧(∀ s,0≤s→s<y - x→∀ c,c<n→Zq e (x+s) c=Zq e x c)∧opn e y<opn e x
 no:o=none→∀ s,0≤s→∀ c,c<n→wG e (x+s) c=wG e x c∧Zq e (x+s) c=0
/-! ### am9 -/
def jX (a:Rat):Rat:=if 0≤a then a else 0
abbrev kH:=Nat×Nat
def wH (W:Rat) (q:kH→Rat):Rat→List kH→Nat→Rat
 | _,[],_=>0
 | Q,l::t,j=>(if l.1=j then jX (Q+q l - W) - jX (Q - W) else 0)+wH W q (Q+q l) t j
def okD (W:Rat) (q r:kH→Rat) (s:Rat):Rat→Rat→List kH→Prop
 | _,_,[]=>True
 | Q,R,l::t=>(Q+q l<W→s*(R+r l)≤W - (Q+q l))∧okD W q r s (Q+q l) (R+r l) t
section
variable {W:Rat} {q q' r r' : kH→Rat}
theorem ac1 {Q Q' a a' : Rat} (hQ:Q≤Q') (ha:0≤a) (h:a≤a'):jX (Q+a - W) - jX (Q - W)≤jX (Q' + a' - W) - jX (Q' - W):=by
 unfold jX
 split <;> split <;> split <;> split <;> grind
theorem QB (hq : ∀ l,0≤q l) (h : ∀ l,q l≤q' l) (j:Nat) : ∀ (t:List kH) (Q Q' : Rat),Q≤Q'→wH W q Q t j≤wH W q' Q' t j
 | [],_,_,_=>Rat.le_refl
 | l::t,Q,Q',hQ=>by
  have h1:=ac1 (W:=W) hQ (hq l) (h l)
  have:=h l
  have ih:=QB hq h j t (Q+q l) (Q' + q' l) (by grind)
  unfold wH
  split <;> grind
theorem W9 {n:Nat} : ∀ (t:List kH) (Q:Rat),(∀ l∈t,l.1<n)→aC n (fun j=>wH W q Q t j)=jX (Q+aO t q - W) - jX (Q - W)
 | [],Q,_=>by
  have:aC n (fun j=>wH W q Q [] j)=0:=dF fun _ _=>rfl
  rw [this];unfold aO;grind
 | l::t,Q,hl=>by
  have ih:=W9 (n:=n) t (Q+q l) fun u hu=>hl u (by simp [hu])
  have e:aC n (fun j=>wH W q Q (l::t) j)=aC n (fun j=>if l.1=j then jX (Q+q l - W) - jX (Q - W) else 0)+aC n fun j=>wH W q (Q+q l) t j:=by rw [← dN];rfl
  have e2:aC n (fun j=>if l.1=j then jX (Q+q l - W) - jX (Q - W) else 0)=jX (Q+q l - W) - jX (Q - W):=by
   rw [kR (k:=l.1) (hl l (by simp)) fun i _ hne=>if_neg fun h=>hne h.symm,if_pos rfl]
  have e3:Q+aO (l::t) q=Q+q l+aO t q:=by show Q+(q l+aO t q)=_;grind
  rw [e,ih,e2,e3];grind
end
end Go.Proofs.Ins
