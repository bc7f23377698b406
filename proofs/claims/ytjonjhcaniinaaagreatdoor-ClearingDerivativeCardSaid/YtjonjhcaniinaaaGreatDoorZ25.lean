/- as9 of Uo between Af: clearing vectors, and the paths to the greatest and the least one. -/
import Derived.Test.YtjonjhcaniinaaaGreatDoorZ24
set_option linter.all false
set_option maxHeartbeats 8000000
namespace Go.Proofs.Xe
open Go.RowKit Go.Proofs.Ins
theorem Um : ∀ l:List Int,ones l.length (fun i=>B.int .i64 (ix l i))=l.map (B.int .i64)
 | []=>rfl
 | x::l=>by
  show [B.int .i64 x] ++ bH l.length (fun i=>[B.int .i64 (ix l i)])=_
  have:=Um l
  unfold ones at this
  rw [this];rfl
theorem Un (φ:Ph) : ∀ l:List Int,kL φ (l.map (B.int .i64)) (l.map (Value.int .i64))
 | []=>trivial
 | _::l=>⟨rfl,Un φ l⟩
noncomputable def ae7 (l:List Int) (σ:St):Option (V×St):=if l.length=0 then some (.c .aY,σ) else some (.c (.sl σ.ah 0 l.length .opn),⟨hset σ.h σ.ah ⟨ones l.length (fun i=>.int .i64 (ix l i)),some (1,3)⟩,σ.ah+1⟩)
noncomputable section
open Classical in
def ae8 (args:List V) (σ:St):Option (V×St):=match args with
 | [.agg [v]]=>if h : ∃ a,gu (fun _=>True) σ.h v a∧a.length≤1000000∧a.flatten.length≤1000000 then ae7 (vO (Classical.choose h)) σ else none
 | _=>none
def abD (f:Nat) (args:List V) (σ:St):Option (V×St) :=
 if f=27 then aeF args σ
 else if f=90 then ae8 args σ
 else none
end
theorem aiV {p:Nat→Prop} {σ:St} {v:B} {a:fK} (ha:gu p σ.h v a) (h1:a.length≤1000000) (h2:a.flatten.length≤1000000):ae8 [.agg [v]] σ=ae7 (vO a) σ:=by
 have h : ∃ a,gu (fun _=>True) σ.h v a∧a.length≤1000000∧a.flatten.length≤1000000:=⟨a,ha.keep (fun _ _=>rfl) fun _ _=>trivial,h1,h2⟩
 unfold ae8
 dsimp only
 rw [dif_pos h,(Classical.choose_spec h).1.uniq ha]
theorem ae9 {args:List V} {σ σ' : St} {v:V} (h:ae8 args σ=some (v,σ')) : ∃ t a,args=[.agg [t]]∧ae7 (vO a) σ=some (v,σ')∧gu (fun _=>True) σ.h t a∧a.length≤1000000∧a.flatten.length≤1000000:=by
 unfold ae8 at h
 split at h
 ·next t =>
  split at h
  ·next hx=>exact ⟨t,_,rfl,h,Classical.choose_spec hx⟩
  ·cases h
 ·cases h
theorem aiW (f:Nat) (args:List V) (σ:St) (v:V) (σ' : St) (h:abD f args σ=some (v,σ')):okF Tryz.prog f∧∀ (N:Nat) (w0:World) (φ:Ph) (w:World) (aG:Array Value),Rel N w0 φ σ w→wE φ args aG.toList →
  Calls Tryz.prog f aG w fun e w'=>∃ cv,e = .returned cv∧∃ φ',Ext σ.ah φ φ'∧Rel N w0 φ' σ' w'∧RV φ' v cv∧σ.ah≤σ'.ah:=by
 unfold abD at h
 split at h
 ·next e =>
  subst e
  obtain ⟨rfl,ev,dv,g,rfl,rfl,h1,h2⟩:=aeG h
  refine ⟨dS (by kernel_rfl),fun N w0 φ w aG hR ha=>?_⟩
  obtain ⟨u,rfl,hu⟩:=nV ha
  exact (J5 (InW w) g u w (h1.un hR hu) h2 fun x hx=>hx).mono fun e w' he=>⟨_,he.1,φ,Ext.refl _ _,hR.below he.2,rfl,jp⟩
 ·split at h
  ·next e =>
   subst e
   obtain ⟨t,a,rfl,h3,h1,la,lf⟩:=ae9 h
   refine ⟨dS (by kernel_rfl),fun N w0 φ w aG hR ha=>?_⟩
   obtain ⟨u,rfl,hu⟩:=nV ha
   obtain ⟨r,rfl,hr⟩:=hu
   obtain ⟨rl⟩:=r
   match rl,hr with
   | [tv],⟨ht,_⟩ =>
    refine (F8 (InW w) tv a w (h1.un hR ht) jb lf).mono ?_
    rintro e w' ⟨v',l,rfl,-,-,ho,hb,hl,hn⟩
    rw [← hl] at h3
    unfold ae7 at h3
    split at h3
    ·next h0 =>
     cases h3
     exact ⟨_,rfl,φ,Ext.refl _ _,hR.below hb,hn (List.eq_nil_of_length_eq_zero h0),jp⟩
    ·next h0 =>
     cases h3
     obtain ⟨⟨-,h4⟩,-⟩:=ho
     rcases h4 with ⟨-,h4⟩|⟨c,cap,cur,rfl,hc,hg,hnc,hm,hs,hx⟩
     ·exact absurd h4 h0
     ·have hN:σ.new ⟨ones l.length (fun i=>.int .i64 (ix l i)),some (1,3)⟩=some (σ.ah,⟨hset σ.h σ.ah ⟨ones l.length (fun i=>.int .i64 (ix l i)),some (1,3)⟩,σ.ah+1⟩):=kD _ _
      rw [Y8,Nat.mul_one] at hx
      have hol:(ones l.length fun i=>B.int .i64 (ix l i)).length=l.length:=by rw [Ua,Nat.mul_one]
      have hcl:c<w'.heap.size:=(Array.getElem?_eq_some_iff.mp hg).1
      refine ⟨_,rfl,_,wG φ σ.ah (c,cap),(hR.below hb).new hN (w':=w') ⟨rfl,rfl,rfl,jp,fun _ _ _=>rfl⟩ (Nat.le_trans hR.size hc) hcl (fun i p hi _ e=>?_) (.inl ⟨Dj jj,cur,3,hg,?_,?_,fun e t he=>?_⟩),.inl ⟨(c,cap),cap,gV _ _ _,rfl,hnc,?_,rfl,rfl⟩,by show σ.ah≤σ.ah+1;omega⟩
      ·have:=hR.lo i p hi
       omega
      ·show kL φ (ones l.length fun i=>B.int .i64 (ix l i)) (cur.toList.take (ones l.length fun i=>B.int .i64 (ix l i)).length)
       rw [hol,hx,Um]
       exact Un φ l
      ·show (ones l.length fun i=>B.int .i64 (ix l i)).length≤cur.size
       rw [hol,hs];omega
      ·cases he
       exact ⟨rfl,hs,hm⟩
      ·have:maxLen≤9223372036854775807:=by decide
       omega
  ·cases h
noncomputable def abE (f:Nat) (args:List V) (σ:St):Option (V×St):=abD f args σ
theorem aiX (f:Nat) (args:List V) (σ:St) (v:V) (σ' : St) (h:abE f args σ=some (v,σ')):okF Tryz.prog f∧∀ (N:Nat) (w0:World) (φ:Ph) (w:World) (aG:Array Value),Rel N w0 φ σ w→wE φ args aG.toList →
  Calls Tryz.prog f aG w fun e w'=>∃ cv,e = .returned cv∧∃ φ',Ext σ.ah φ φ'∧Rel N w0 φ' σ' w'∧RV φ' v cv∧σ.ah≤σ'.ah:=aiW f args σ v σ' h
def H6 (f:Nat):Prop:=okF Tryz.prog f∧∀ w,Calls Tryz.prog f #[] w fun e w'=>e = .returned (.bool true)∧Below w.heap.size w w'
def awN:List Nat:=[
 13,
 1000000]
noncomputable section
open Classical in
def aiY (f:Nat) (args:List V) (σ:St):Option (V×St):=bif awN.contains f then (match args with|[]=>if H6 f then some (.c (.bool true),σ) else none|_=>none) else none
def Qi (f:Nat) (args:List V) (σ:St):Option (V×St):=match WQ f args σ with
 | some r=>some r
 | none=>match abE f args σ with
  | some r=>some r
  | none=>aiY f args σ
end
theorem aiZ (f:Nat) (args:List V) (σ:St) (v:V) (σ' : St) (h:Qi f args σ=some (v,σ')):okF Tryz.prog f∧∀ (N:Nat) (w0:World) (φ:Ph) (w:World) (aG:Array Value),Rel N w0 φ σ w→wE φ args aG.toList →
  Calls Tryz.prog f aG w fun e w'=>∃ cv,e = .returned cv∧∃ φ',Ext σ.ah φ φ'∧Rel N w0 φ' σ' w'∧RV φ' v cv∧σ.ah≤σ'.ah:=by
 unfold Qi at h
 split at h
 ·next r hr=>cases h;exact ahF f args σ v σ' hr
 ·split at h
  ·next r hr=>cases h;exact aiX f args σ v σ' hr
  ·unfold aiY at h
   cases hb:awN.contains f with
   | false=>rw [hb] at h;cases h
   | true =>
    rw [hb] at h
    simp only [cond_true] at h
    split at h
    ·split at h
     ·next ha =>
      cases h
      refine ⟨ha.1,fun N w0 φ w aG hR hargs=>?_⟩
      obtain ⟨l⟩:=aG
      match l,hargs with
      | [],_=>exact (ha.2 w).mono fun e w' he=>⟨_,he.1,φ,Ext.refl _ _,hR.below he.2,rfl,jp⟩
     ·cases h
    ·cases h
class Xu (E:Env):Prop where
 a : ∀ f args σ r,Qi f args σ=some r→E.orc f args σ=some r
instance {E:Env} [h:Xu E]:vK E:=⟨fun f args σ v hv=>h.a f args σ _ (by unfold Qi WQ;rw [hv])⟩
theorem E8 {E:Env} [hE:Xu E] {f:Nat} {args:List V} {v:V} {σ σ2:St} {K:V→St→Prop} (h:Qi f args σ=some (v,σ2)):aO E f args σ K=K v σ2:=by
 refine propext ⟨fun ⟨n,v',σ',h1,h2⟩=>?_,fun hk=>TK (hE.a f args σ _ h) hk⟩
 have h3:ig E 1 f args σ=some (v,σ2):=by rw [ig];unfold Di;rw [hE.a f args σ _ h]
 have a:=lC (show n≤n+1 by omega) f args σ _ h1
 have b:=lC (show 1≤n+1 by omega) f args σ _ h3
 rw [a] at b
 cases b
 exact h2
section
variable {E:Env} [Xu E] {σ:St} {K:V→St→Prop}
end
end Go.Proofs.Xe
namespace Go.Proofs.Xe
open Go Go.RowKit Go.Proofs.Ins
noncomputable section
noncomputable def om {α β:Type} (f:α→Option β):List α→Option (List β)
 | []=>some []
 | x::l=>match f x,om f l with|some y,some r=>some (y::r)|_,_=>none
noncomputable def fL {α:Sort _} : List Nat→(List Nat→α)→α
 | [],k=>k []
 | x::l,k=>fN x fun x=>fL l fun l=>k (x::l)
noncomputable def tB:Value→Option B
 | .int k n=>some (.int k n)
 | .bool b=>some (.bool b)
 | .string s=>bif Nat.beq s.size 0 then some (.str ⟨#[]⟩) else none
 | .pointer none=>some .Px
 | .slice none 0 0=>some .aY
 | _=>none
noncomputable def tV:Value→Option V
 | .agg r=>(om tB r.toList).map .agg
 | .nilFunc=>some .Jl
 | v=>(tB v).map .c
noncomputable def tO:Operand→Option O
 | .tmp t=>some (.t t)
 | .const v=>(tV v).map .k
 | .func f=>some (.k (.fn f []))
 | _=>none
noncomputable def tOO:Option Operand→Option (Option O)
 | none=>some none
 | some x=>(tO x).map some
noncomputable def tZ (P:Program) (t:TypeId):Option (List B):=match P.info? t with
 | some i=>(match i.zero with|some z=>om tB z.cells.toList|none=>none)
 | none=>none
noncomputable def tTy (P:Program) (t:TypeId):Option (Nat×Bool):=match P.info? t,P.underlying t with
 | some i,some d=>fN i.size fun n=>some (n,aoQ d)
 | _,_=>none
noncomputable def tEl (P:Program) (t:TypeId):Option TypeId:=match P.underlying t with|some (.slice e)=>some e|_=>none
noncomputable def tSz (P:Program) (t:TypeId):Option Nat:=match P.info? t with|some i=>fN i.size some|none=>none
noncomputable def tBy (P:Program) (t:TypeId):Option Nat:=match P.info? t with|some i=>fN i.bytes some|none=>none
noncomputable def tPs (g:Nat→Option (Nat×Nat)):List (Nat×Operand)→Option (List (Nat×Nat×O)):=om fun x=>match g x.1,tO x.2 with|some p,some y=>fN p.1 fun a=>fN p.2 fun b=>some (a,b,y)|_,_=>none
noncomputable def eqK:BinOp→Option Bool
 | .eql=>some true
 | .neq=>some false
 | _=>none
noncomputable def tEq (P:Program) (p:Bool) (t:TypeId) (x:O) (y:Operand) (z:O):Option qL:=match P.underlying t with
 | some .bool=>some (.eqb p x z)
 | some (.struct _)=>bif Tc P t then some (.Dc p x z) else some (.AL p x z)
 | some (.slice _)=>some (.nil 0 p x)
 | some (.pointer _)=>some (.nil 1 p x)
 | some (.func ..)=>some (.nil 2 p x)
 | _=>none
noncomputable def tOp (P:Program):Op→Option qL
 | .move x|.assign x=>do some (.mov (← tO x))
 | .pick c a b=>do some (.pick (← tO c) (← tO a) (← tO b))
 | .load t x=>do
  let g←tTy P t
  some (.load g.1 g.2 (← tO x))
 | .store t x u=>do some (.store (← tSz P t) (← tO x) (← tO u))
 | .fieldAddr s x f=>do
  let fd←zV P s f
  some (.yJ fd.offset (← tO x))
 | .field s x f=>do
  let fd←zV P s f
  let g←tTy P fd.type
  some (.field fd.offset g.1 g.2 (← tO x))
 | .indexAddr t x i=>match P.underlying t,i with
  | some (.slice el),i=>do some (.AB (← tSz P el) (← tO x) (← tO i))
  | some (.array _ el),.const (.int _ (.ofNat j))=>do
   let n←tSz P el
   let y←tO x
   fN (j*n) fun m=>some (.yJ m y)
  | _,_=>none
 | .extract x i=>do some (.ext i (← tO x))
 | .binOp b t x y _=>do
  let x'←tO x
  let y'←tO y
  match eqK b with
  | some p=>(match tEq P p t x' y y' with|some r=>some r|none=>some (.bin b x' y'))
  | none=>some (.bin b x' y')
 | .unOp .not _ x=>do some (.not (← tO x))
 | .convert _ d x=>match P.underlying d with
  | some (.int k)=>do some (.conv k (← tO x))
  | _=>none
 | .build t ps=>match P.underlying t with
  | some (.struct fs)=>do
   let pl←placesOf P fs.toList
   some (.build (← tZ P t) (← tPs (fun i=>pl[i]?) ps.toList))
  | _=>none
 | .makeMap t none=>bif Nat.beq t 104 then some .Jo else some .Jm
 | .lookup _ m k false=>do some (.lookup (← tO m) (← tO k))
 | .mapUpdate _ m k v=>do some (.Wq (← tO m) (← tO k) (← tO v))
 | .makeFunc (.func f) _ cs=>do some (.Py f (← om tO cs.toList))
 | .slice t x lo hi mx=>do
  let e←tEl P t
  some (.slice (← tSz P e) (← tO x) (← tOO lo) (← tOO hi) (← tOO mx))
 | .nilCheck x=>do some (.L9 (← tO x))
 | .alloc e=>do some (.alloc (← tZ P e))
 | .box _ x=>do some (.box (← tO x))
 | .makeSlice t l c=>do
  let e←tEl P t
  some (.Gs (← tBy P e) (← tZ P e) (← tO l) (← tO c))
 | .buildSlice t len ps=>do
  let e←tEl P t
  let n←tSz P e
  some (.bsl n len (← tZ P e) (← tPs (fun i=>some (i*n,n)) ps.toList))
 | .call c=>match c.callee,c.args.toList,c.argTypes.toList with
  | .value f,xs,_=>do some (.call (← tO f) (← om tO xs))
  | .builtin .len,[x],_=>do some (.len (← tO x))
  | .builtin .min,[x,y],_=>do some (.min2 (← tO x) (← tO y))
  | .builtin .append,[s,x],[t,_]=>do
   let e←tEl P t
   some (.app e (← tSz P e) (← tBy P e) (← tO s) (← tO x))
  | _,_,_=>none
 | _=>none
noncomputable def tAO (P:Program) (ops:Array Oper) (o:Oper):Option AO:=match tOp P o.op with
 | some a=>(match o.guard with
  | none=>some ⟨o.dst,none,a⟩
  | some (j,b)=>(match (ops[j]?).bind (·.dst) with|some d=>some ⟨o.dst,some (d,b),a⟩|none=>none))
 | none=>none
noncomputable def uni:List Nat→List Nat→List Nat
 | [],l=>l
 | x::r,l=>bif l.contains x then uni r l else uni r (x::l)
noncomputable def ptE (acc:List (List Nat)):List Edge→List Nat→List Nat
 | [],l=>l
 | e::r,l=>bif Region.binds .any e then fL (uni (e.on::acc.getD e.on []) l) (ptE acc r) else ptE acc r l
noncomputable def ptL {α:Sort _} : List Oper→List (List Nat)→(List (List Nat)→α)→α
 | [],acc,k=>k acc
 | o::r,acc,k=>fL (ptE acc o.after.toList []) fun l=>ptL r (acc ++ [l]) k
noncomputable def ane:List AO→Nat→List Nat
 | [],_=>[]
 | a::l,i=>bif yQ a.op.kind then ane l (i+1) else i::ane l (i+1)
noncomputable def akq:List AO→Nat→Nat→Option Nat
 | [],_,_=>none
 | a::l,i,t=>bif (match a.dst with|some d=>Nat.beq d t|none=>false) then some i else akq l (i+1) t
noncomputable def Za:List Operand→List Nat
 | []=>[]
 | .tmp t::l=>t::Za l
 | _::l=>Za l
noncomputable def akr (aos:List AO) (w:List Nat):List Nat→List Nat×List Nat
 | []=>([],[])
 | t::l=>match akq aos 0 t,akr aos w l with
  | some p,(us,os)=>bif w.contains p then (uni [p] us,os) else (us,uni [t] os)
  | none,r=>r
noncomputable def Xv (w:List Nat):List Nat→Nat→Nat→Nat
 | [],_,b=>b
 | x::l,k,b=>bif w.contains x then Xv w l (k+1) k else Xv w l (k+1) b
noncomputable def aqh (pt:List (List Nat)) (acts:List Nat) (aos:List AO):List Oper→List AO→Nat→List (Nat×DO)
 | o::r,a::l,i =>
  let w:=pt.getD i []
  match akr aos w (match a.g with|some (t,_)=>t::Za o.op.operands.toList|none=>Za o.op.operands.toList) with
  | (us,os)=>fL us fun us=>fL os fun os=>fN (Xv w acts 1 0) fun s=>fN i fun i=>(s,⟨i,us,os,a⟩)::aqh pt acts aos r l (i+1)
 | _,_,_=>[]
noncomputable def qOf (s:Nat):List (Nat×DO)→(List DO→Option Dr)→Option Dr
 | [],k=>k []
 | (t,d)::l,k=>bif Nat.beq t s && yQ d.o.op.kind then qOf s l fun r=>k (d::r) else qOf s l k
noncomputable def aks (x:Nat):List (Nat×DO)→Option DO
 | []=>none
 | (_,d)::l=>bif Nat.beq d.i x then some d else aks x l
noncomputable def tDr (EJ:List (Nat×DO)):List Nat→Nat→Option Dr
 | [],s=>qOf s EJ fun q=>some (.fin q)
 | x::r,s=>match aks x EJ,tDr EJ r (s+1) with
  | some d,some D=>qOf s EJ fun q=>some (.act q d D)
  | _,_=>none
noncomputable def dsL:List AO→List Nat
 | []=>[]
 | a::l=>match a.dst with|some d=>d::dsL l|none=>dsL l
noncomputable def ase (P:Program) (ops:Array Oper):Bool→Option AC
 | false=>(om (tAO P ops) ops.toList).map .ops
 | true=>match om (tAO P ops) ops.toList with
  | some aos=>ptL ops.toList [] fun pt=>fL (ane aos 0) fun acts=>(match tDr (aqh pt acts aos ops.toList aos 0) acts 0 with
   | some D=>fL (dsL aos) fun ds=>some (.drawn D pt ds)
   | none=>none)
  | none=>none
noncomputable def tC (P:Program):Code→Option AC
 | .skip|.label _=>some .skip
 | .region _ ops dr=>ase P ops dr
 | .seq a b=>match tC P a,tC P b with|some x,some y=>some (.seq x y)|_,_=>none
 | .cond c a b=>match tO c,tC P a,tC P b with|some z,some x,some y=>some (.cond z x y)|_,_,_=>none
 | .block i a=>match tC P a with|some x=>some (.block i x)|none=>none
 | .loop a=>match tC P a with|some x=>some (.loop x)|none=>none
 | .exit i=>some (.exit i)
 | .ret=>some .ret
 | _=>none
noncomputable def anf (P:Program):List ResultVar→Option (List (Nat×Option (Nat×Bool)))
 | []=>some []
 | .tmp t::r=>match anf P r with|some l=>some ((t,none)::l)|none=>none
 | .cell t ty::r=>match tTy P ty,anf P r with|some g,some l=>some ((t,some g)::l)|_,_=>none
noncomputable def tG (P:Program) (f:Nat):Option AF:=match P.funcs[f]? with
 | some fn=>(match fn.body with
  | some c=>(match tC P c,anf P fn.results.toList with
   | some b,some r=>fN fn.ntmps fun n=>some ⟨n,b,r⟩
   | _,_=>none)
  | none=>none)
 | none=>none
noncomputable def tF (P:Program) (f:Nat):Option AF:=match tG P f with
 | some F=>bif Tv P f F then some F else none
 | none=>none
theorem aqi {P:Program} {f:Nat} {F:AF} (h:tG P f=some F) (hi:Tv P f F=true):tF P f=some F:=by
 unfold tF
 rw [h]
 dsimp only
 rw [hi]
 rfl
theorem akt {P:Program} {f:Nat} {F:AF} (h:tF P f=some F):Tv P f F=true:=by
 unfold tF at h
 split at h
 ·next F' _ =>
  cases hi:Tv P f F' with
  | false=>rw [hi] at h;cases h
  | true=>rw [hi] at h;cases h;exact hi
 ·cases h
end
theorem fD:ByteArray.mk (Array.mk [])=⟨#[]⟩:=rfl
end Go.Proofs.Xe
namespace Go.Proofs.Xe
open Go.Proofs
set_option maxRecDepth 1000000
set_option maxHeartbeats 8000000
noncomputable def EN:Env:=⟨tF Tryz.prog,Qi⟩
instance atq:Xu EN:=⟨fun _ _ _ _ h=>h⟩
theorem aqj:NQ Tryz.prog EN:=by
 refine ⟨fun f F h=>?_,fun f args σ v σ' h=>aiZ f args σ v σ' h⟩
 unfold EN at h
 exact akt h
structure uw (k:Nat) where
 a:AF
 g:tG Tryz.prog k=some a
 i:Tv Tryz.prog k a=true
 o : ∀ args σ,EN.orc k args σ=none
theorem uw.h {k:Nat} (b:uw k):EN.fns k=some b.a:=aqi b.g b.i
noncomputable def jm:uw 6:=⟨_,by conv=>(lhs;reduce;simp only [fD]),by kernel_rfl,fun _ _=>rfl⟩
noncomputable def Bz:uw 7:=⟨_,by conv=>(lhs;reduce;simp only [fD]),by kernel_rfl,fun _ _=>rfl⟩
noncomputable def tH:uw 10:=⟨_,by conv=>(lhs;reduce;simp only [fD]),by kernel_rfl,fun _ _=>rfl⟩
noncomputable def zf:uw 15:=⟨_,by conv=>(lhs;reduce;simp only [fD]),by kernel_rfl,fun _ _=>rfl⟩
noncomputable def tJ:uw 19:=⟨_,by conv=>(lhs;reduce;simp only [fD]),by kernel_rfl,fun _ _=>rfl⟩
noncomputable def mY:uw 20:=⟨_,by conv=>(lhs;reduce;simp only [fD]),by kernel_rfl,fun _ _=>rfl⟩
noncomputable def BA:uw 21:=⟨_,by conv=>(lhs;reduce;simp only [fD]),by kernel_rfl,fun _ _=>rfl⟩
noncomputable def BD:uw 25:=⟨_,by conv=>(lhs;reduce;simp only [fD]),by kernel_rfl,fun _ _=>rfl⟩
noncomputable def J6:uw 26:=⟨_,by conv=>(lhs;reduce;simp only [fD]),by kernel_rfl,fun _ _=>rfl⟩
noncomputable def oZ:uw 28:=⟨_,by conv=>(lhs;reduce;simp only [fD]),by kernel_rfl,fun _ _=>rfl⟩
noncomputable def jo:uw 29:=⟨_,by conv=>(lhs;reduce;simp only [fD]),by kernel_rfl,fun _ _=>rfl⟩
noncomputable def pz:uw 31:=⟨_,by conv=>(lhs;reduce;simp only [fD]),by kernel_rfl,fun _ _=>rfl⟩
noncomputable def jG:uw 32:=⟨_,by conv=>(lhs;reduce;simp only [fD]),by kernel_rfl,fun _ _=>rfl⟩
noncomputable def iT:uw 33:=⟨_,by conv=>(lhs;reduce;simp only [fD]),by kernel_rfl,fun _ _=>rfl⟩
noncomputable def je:uw 43:=⟨_,by conv=>(lhs;reduce;simp only [fD]),by kernel_rfl,fun _ _=>rfl⟩
noncomputable def jR:uw 44:=⟨_,by conv=>(lhs;reduce;simp only [fD]),by kernel_rfl,fun _ _=>rfl⟩
noncomputable def Fa:uw 49:=⟨_,by conv=>(lhs;reduce;simp only [fD]),by kernel_rfl,fun _ _=>rfl⟩
noncomputable def BF:uw 50:=⟨_,by conv=>(lhs;reduce;simp only [fD]),by kernel_rfl,fun _ _=>rfl⟩
noncomputable def qP:uw 53:=⟨_,by conv=>(lhs;reduce;simp only [fD]),by kernel_rfl,fun _ _=>rfl⟩
noncomputable def gY:uw 54:=⟨_,by conv=>(lhs;reduce;simp only [fD]),by kernel_rfl,fun _ _=>rfl⟩
noncomputable def iZ:uw 55:=⟨_,by conv=>(lhs;reduce;simp only [fD]),by kernel_rfl,fun _ _=>rfl⟩
noncomputable def jq:uw 56:=⟨_,by conv=>(lhs;reduce;simp only [fD]),by kernel_rfl,fun _ _=>rfl⟩
noncomputable def jr:uw 57:=⟨_,by conv=>(lhs;reduce;simp only [fD]),by kernel_rfl,fun _ _=>rfl⟩
noncomputable def lW:uw 59:=⟨_,by conv=>(lhs;reduce;simp only [fD]),by kernel_rfl,fun _ _=>rfl⟩
noncomputable def qQ:uw 60:=⟨_,by conv=>(lhs;reduce;simp only [fD]),by kernel_rfl,fun _ _=>rfl⟩
noncomputable def eH:uw 69:=⟨_,by conv=>(lhs;reduce;simp only [fD]),by kernel_rfl,fun _ _=>rfl⟩
noncomputable def mZ:uw 70:=⟨_,by conv=>(lhs;reduce;simp only [fD]),by kernel_rfl,fun _ _=>rfl⟩
noncomputable def oh:uw 79:=⟨_,by conv=>(lhs;reduce;simp only [fD]),by kernel_rfl,fun _ _=>rfl⟩
noncomputable def qU:uw 80:=⟨_,by conv=>(lhs;reduce;simp only [fD]),by kernel_rfl,fun _ _=>rfl⟩
noncomputable def oq:uw 81:=⟨_,by conv=>(lhs;reduce;simp only [fD]),by kernel_rfl,fun _ _=>rfl⟩
noncomputable def jv:uw 82:=⟨_,by conv=>(lhs;reduce;simp only [fD]),by kernel_rfl,fun _ _=>rfl⟩
noncomputable def jf:uw 83:=⟨_,by conv=>(lhs;reduce;simp only [fD]),by kernel_rfl,fun _ _=>rfl⟩
noncomputable def lI:uw 92:=⟨_,by conv=>(lhs;reduce;simp only [fD]),by kernel_rfl,fun _ _=>rfl⟩
noncomputable def qV:uw 93:=⟨_,by conv=>(lhs;reduce;simp only [fD]),by kernel_rfl,fun _ _=>rfl⟩
noncomputable def jH:uw 94:=⟨_,by conv=>(lhs;reduce;simp only [fD]),by kernel_rfl,fun _ _=>rfl⟩
noncomputable def jS:uw 95:=⟨_,by conv=>(lhs;reduce;simp only [fD]),by kernel_rfl,fun _ _=>rfl⟩
noncomputable def jT:uw 96:=⟨_,by conv=>(lhs;reduce;simp only [fD]),by kernel_rfl,fun _ _=>rfl⟩
noncomputable def fP:uw 97:=⟨_,by conv=>(lhs;reduce;simp only [fD]),by kernel_rfl,fun _ _=>rfl⟩
noncomputable def fJ:uw 110:=⟨_,by conv=>(lhs;reduce;simp only [fD]),by kernel_rfl,fun _ _=>rfl⟩
noncomputable def jw:uw 117:=⟨_,by conv=>(lhs;reduce;simp only [fD]),by kernel_rfl,fun _ _=>rfl⟩
noncomputable def jy:uw 118:=⟨_,by conv=>(lhs;reduce;simp only [fD]),by kernel_rfl,fun _ _=>rfl⟩
noncomputable def jA:uw 129:=⟨_,by conv=>(lhs;reduce;simp only [fD]),by kernel_rfl,fun _ _=>rfl⟩
noncomputable def fA:uw 130:=⟨_,by conv=>(lhs;reduce;simp only [fD]),by kernel_rfl,fun _ _=>rfl⟩
noncomputable def jB:uw 131:=⟨_,by conv=>(lhs;reduce;simp only [fD]),by kernel_rfl,fun _ _=>rfl⟩
end Go.Proofs.Xe
namespace Go.Proofs.Ins
/-! ### atr over the numbers below n -/
def aB:Nat→(Nat→Rat)→Rat
 | 0,_=>0
 | n+1,f=>aB n f+f n
theorem aS {n:Nat} {f g:Nat→Rat} (h : ∀ i,i<n→f i=g i):aB n f=aB n g:=by
 induction n with
 | zero=>rfl
 | succ n ih=>rw [aB,aB,ih fun i hi=>h i jb,h n jb]
theorem dw {n:Nat} {f:Nat→Rat} (h : ∀ i,i<n→f i=0):aB n f=0:=by
 induction n with
 | zero=>rfl
 | succ n ih=>rw [aB,ih fun i hi=>h i jb,h n jb];exact Rat.add_zero 0
theorem dH (n:Nat) (f g:Nat→Rat):aB n (fun i=>f i+g i)=aB n f+aB n g:=by
 induction n with
 | zero=>rw [aB,aB,aB];grind
 | succ n ih=>rw [aB,aB,aB,ih];grind
theorem kH (n:Nat) (f g:Nat→Rat):aB n (fun i=>f i - g i)=aB n f - aB n g:=by
 induction n with
 | zero=>rw [aB,aB,aB];grind
 | succ n ih=>rw [aB,aB,aB,ih];grind
theorem zk (n:Nat) (c:Rat) (f:Nat→Rat):aB n (fun i=>c*f i)=c*aB n f:=by
 induction n with
 | zero=>rw [aB,aB];grind
 | succ n ih=>rw [aB,aB,ih];grind
theorem N7 (n:Nat) (c:Rat) (f:Nat→Rat):aB n (fun i=>f i*c)=aB n f*c:=by
 rw [aS (g:=fun i=>c*f i) fun i _=>Rat.mul_comm _ _,zk,Rat.mul_comm]
theorem uZ {n:Nat} {f g:Nat→Rat} (h : ∀ i,i<n→f i≤g i):aB n f≤aB n g:=by
 induction n with
 | zero=>exact Rat.le_refl
 | succ n ih =>
  rw [aB,aB]
  have:=ih fun i hi=>h i jb
  have:=h n jb
  grind
theorem H7 {n:Nat} {f:Nat→Rat} (h : ∀ i,i<n→0≤f i):0≤aB n f:=by
 have:=uZ (n:=n) (f:=fun _=>0) (g:=f) h
 rwa [dw fun _ _=>rfl] at this
theorem ai0 {n:Nat} {f g:Nat→Rat} (h : ∀ i,i<n→f i≤g i) (e:aB n g≤aB n f) : ∀ i,i<n→f i=g i:=by
 induction n with
 | zero=>intro i hi;omega
 | succ n ih =>
  rw [aB,aB] at e
  have h1:=uZ (n:=n) (f:=f) (g:=g) fun i hi=>h i jb
  have h2:=h n jb
  have h3:=ih (fun i hi=>h i jb) kf
  intro i hi
  by_cases hin:i=n
  ·subst hin;grind
  ·exact h3 i jb
theorem afa {n:Nat} {f:Nat→Rat} (h : ∀ i,i<n→0≤f i) (e:aB n f≤0) : ∀ i,i<n→f i=0:=by
 intro i hi
 exact (ai0 (f:=fun _=>0) h (by rw [dw fun _ _=>rfl];exact e) i hi).symm
theorem N8 (n m:Nat) (f:Nat→Nat→Rat):aB n (fun i=>aB m fun j=>f i j)=aB m fun j=>aB n fun i=>f i j:=by
 induction n with
 | zero=>rw [aB];exact (dw fun j _=>rfl).symm
 | succ n ih =>
  rw [aB,ih,← dH]
  exact aS fun j _=>rfl
theorem jI {n:Nat} {f:Nat→Rat} {k:Nat} (hk:k<n) (h : ∀ i,i<n→i≠k→f i=0):aB n f=f k:=by
 induction n with
 | zero=>omega
 | succ n ih =>
  rw [aB]
  by_cases e:k=n
  ·subst e
   rw [dw fun i hi=>h i jb jb];grind
  ·rw [ih jb (fun i hi hne=>h i jb hne),h n jb jb];grind
theorem Gg {n:Nat} {f:Nat→Rat} {k:Nat} (hk:k<n) (h : ∀ i,i<n→0≤f i):f k≤aB n f:=by
 induction n with
 | zero=>omega
 | succ n ih =>
  rw [aB]
  by_cases e:k=n
  ·subst e
   have:=H7 (n:=k) (f:=f) fun i hi=>h i jb
   grind
  ·have:=ih jb (fun i hi=>h i jb)
   have:=h n jb
   grind
/-! ### aqk whose columns have sums of at most 1 -/
def mv (n:Nat) (M:Nat→Nat→Rat) (v:Nat→Rat) (j:Nat):Rat:=aB n fun i=>M j i*v i
structure asf (n:Nat) (M:Nat→Nat→Rat):Prop where
 nn : ∀ j i,j<n→i<n→0≤M j i
 le : ∀ i,i<n→aB n (fun j=>M j i)≤1
/-! ### A flow: what Uo the Af have again if they have x -/
structure Flow (n:Nat) where
 G:(Nat→Rat)→Nat→Rat
 M:(Nat→Rat)→Nat→Nat→Rat
 mono : ∀ x y,(∀ i,i<n→0≤x i)→(∀ i,i<n→x i≤y i)→∀ j,j<n→G x j≤G y j
 leak : ∀ x y,(∀ i,i<n→0≤x i)→(∀ i,i<n→x i≤y i)→aB n (fun i=>x i - G x i)≤aB n (fun i=>y i - G y i)
 nn : ∀ x,(∀ i,i<n→0≤x i)→∀ j i,j<n→i<n→0≤M x j i
 loc : ∀ x d,(∀ i,i<n→0≤x i)→(∀ i,i<n→0≤d i)→∃ ε,0<ε∧∀ s,0≤s→s≤ε→∀ j,j<n→G (fun i=>x i+s*d i) j=G x j+s*mv n (M x) d j
def Nn (n:Nat) (x:Nat→Rat):Prop:=∀ i,i<n→0≤x i
def Le (n:Nat) (x y:Nat→Rat):Prop:=∀ i,i<n→x i≤y i
def jO (x d:Nat→Rat) (s:Rat) (i:Nat):Rat:=x i+s*d i
theorem le_step {n:Nat} {x d:Nat→Rat} {s:Rat} (hd:Nn n d) (hs:0≤s):Le n x (jO x d s):=fun i hi=>by
 have:=Rat.mul_nonneg hs (hd i hi);unfold jO;grind
theorem Nn.le {n:Nat} {x y:Nat→Rat} (h:Nn n x) (hl:Le n x y):Nn n y:=fun i hi=>Rat.le_trans (h i hi) (hl i hi)
section
variable {n:Nat} (F:Flow n)
theorem cancel {s a b:Rat} (hs:0<s) (h:s*a≤s*b):a≤b:=by
 refine Rat.not_lt.mp fun hlt=>?_
 have:=Rat.mul_lt_mul_of_pos_left hlt hs
 grind
theorem ai1 {M:Nat→Nat→Rat} {k:Nat} (hk:k<n) (j:Nat):mv n M (fun i=>if i=k then 1 else 0) j=M j k:=by
 unfold mv
 rw [jI hk fun i _ hne=>by dsimp only;rw [if_neg hne];grind]
 dsimp only;rw [if_pos rfl];grind
theorem ai2 {ε:Rat} (h:0<ε) : ∃ s,0<s∧s≤ε∧s≤1:=by
 by_cases h1:ε≤1
 ·exact ⟨ε,h,Rat.le_refl,h1⟩
 ·exact ⟨1,jj,by grind,Rat.le_refl⟩
/-! ### Clearing vectors -/
def Fix (c:Nat→Rat) (t:Rat) (x:Nat→Rat):Prop:=∀ j,j<n→x j=t*c j+F.G x j
def Pre (c:Nat→Rat) (t:Rat) (y:Nat→Rat):Prop:=∀ j,j<n→t*c j+F.G y j≤y j
theorem ang : ∀ (n:Nat) (x y v:Nat→Rat) (h:Rat),0≤h→Le n x y→Nn n v→∃ s,0≤s∧s≤h∧Le n (jO x v s) y∧(s=h∨∃ i,i<n∧0<v i∧jO x v s i=y i)
 | 0,x,y,v,h,h0,_,_=>⟨h,h0,Rat.le_refl,fun i hi=>jb,.inl rfl⟩
 | n+1,x,y,v,h,h0,hl,hv=>by
  obtain ⟨s,h1,h2,h3,h4⟩:=ang n x y v h h0 (fun i hi=>hl i jb) (fun i hi=>hv i jb)
  by_cases hc:jO x v s n≤y n
  ·refine ⟨s,h1,h2,fun i hi=>?_,?_⟩
   ·by_cases e:i=n
    ·subst e;exact hc
    ·exact h3 i jb
   ·rcases h4 with h4|⟨i,hi,h5⟩
    ·exact .inl h4
    ·exact .inr ⟨i,jb,h5⟩
  ·have hxn:=hl n jb
   have hvn:=hv n jb
   unfold jO at hc
   have hp:0<v n:=by
    rcases Rat.le_iff_lt_or_eq.mp hvn with e|e
    ·exact e
    ·exfalso;rw [← e] at hc;grind
   obtain ⟨r,er⟩ : ∃ r,r*v n=y n - x n:=⟨(y n - x n)/v n,Rat.div_mul_cancel kf⟩
   have hr0:0≤r:=by
    refine Rat.not_lt.mp fun hlt=>?_
    have:=Rat.mul_lt_mul_of_pos_right hlt hp
    grind
   have hrs:r≤s:=by
    refine Rat.not_lt.mp fun hlt=>?_
    have:=Rat.mul_lt_mul_of_pos_right hlt hp
    grind
   refine ⟨r,hr0,by grind,fun i hi=>?_,.inr ⟨n,jb,hp,by unfold jO;grind⟩⟩
   by_cases e:i=n
   ·subst e;unfold jO;grind
   ·have a:=h3 i jb
    have b:=Rat.mul_le_mul_of_nonneg_right hrs (hv i jb)
    unfold jO at *;grind
def Least (c:Nat→Rat) (t:Rat) (x:Nat→Rat):Prop:=∀ t' y,Nn n y→Pre F c t' y→(t<t'∨(t=1∧t' = 1))→Le n x y
end
end Go.Proofs.Ins
