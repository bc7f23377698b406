import Derived.Test.YtchhojplceoifaaGreatDoorYc8
import Derived.Test.YtchhojplceoifaaGreatDoorYc2
set_option linter.all false
noncomputable section
namespace Go.Proofs.Xe
open Go Go.RowKit Go.Proofs.Ins
noncomputable section
def om{α β:Type}(f:α->Option β):List α->Option (List β)
 |[]=>some []
 |x::l=>match f x,om f l with|some y,some r=>some (y::r)|_,_=>none
def fL{α:Sort _}:List Nat->(List Nat->α)->α
 |[],k=>k []
 |x::l,k=>fN x λx=>fL l λl=>k (x::l)
def tB:Value->Option B
 |.int k n=>some (.int k n)
 |.bool b=>some (.bool b)
 |.string s=>bif Nat.beq s.size 0 then some (.str ⟨#[]⟩)else some (.str s)
 |.pointer none=>some .TB
 |.slice none 0 0=>some .aX
 |_=>none
def tV:Value->Option V
 |.agg r=>(om tB r.toList).map .agg
 |.nilFunc=>some .MS
 |v=>(tB v).map .c
def tO:Operand->Option O
 |.tmp t=>some (.t t)
 |.const v=>(tV v).map .k
 |.func f=>some (.k (.fn f []))
 |_=>none
def tOO:Option Operand->Option (Option O)
 |none=>some none
 |some x=>(tO x).map some
def tZ(P:Program)(t:TypeId):Option (List B):=match P.info? t with
 |some i=>(match i.zero with|some z=>om tB z.cells.toList|none=>none)
 |none=>none
def tTy(P:Program)(t:TypeId):Option (Nat×Bool):=match P.info? t,P.underlying t with
 |some i,some d=>fN i.size λn=>some (n,at6 d)
 |_,_=>none
def tEl(P:Program)(t:TypeId):Option TypeId:=match P.underlying t with|some (.slice e)=>some e|_=>none
def tSz(P:Program)(t:TypeId):Option Nat:=match P.info? t with|some i=>fN i.size some|none=>none
def tBy(P:Program)(t:TypeId):Option Nat:=match P.info? t with|some i=>fN i.bytes some|none=>none
def tPs(g:Nat->Option (Nat×Nat)):List (Nat×Operand)->Option (List (Nat×Nat×O)):=om λx=>match g x.1,tO x.2 with|some p,some y=>fN p.1 λa=>fN p.2 λb=>some (a,b,y)|_,_=>none
def eqK:BinOp->Option Bool
 |.eql=>some true
 |.neq=>some false
 |_=>none
def tEq(P:Program)(p:Bool)(t:TypeId)(x:O)(y:Operand)(z:O):Option vV:=match P.underlying t with
 |some .bool=>some (.eqb p x z)
 |some (.struct _)=>bif Wn P t then some (.GV p x z)else some (.Fp p x z)
 |some (.slice _)=>some (.nil 0 p x)
 |some (.pointer _)=>some (.nil 1 p x)
 |some (.func ..)=>some (.nil 2 p x)
 |_=>none
def tOp(P:Program):Op->Option vV
 |.move x|.assign x=>do some (.mov (<-tO x))
 |.pick c a b=>do some (.pick (<-tO c) (<-tO a) (<-tO b))
 |.load t x=>do
  let g<-tTy P t
  some (.load g.1 g.2 (<-tO x))
 |.store t x u=>do some (.store (<-tSz P t) (<-tO x) (<-tO u))
 |.fieldAddr s x f=>do
  let fd<-Ei P s f
  some (.CG fd.offset (<-tO x))
 |.field s x f=>do
  let fd<-Ei P s f
  let g<-tTy P fd.type
  some (.field fd.offset g.1 g.2 (<-tO x))
 |.indexAddr t x i=>match P.underlying t,i with
  |some (.slice el),i=>do some (.Fj (<-tSz P el) (<-tO x) (<-tO i))
  |some (.array _ el),.const (.int _ (.ofNat j))=>do
   let n<-tSz P el
   let y<-tO x
   fN (j*n) λm=>some (.CG m y)
  |_,_=>none
 |.extract x i=>do some (.ext i (<-tO x))
 |.binOp b t x y _=>do
  let x'<-tO x
  let y'<-tO y
  match eqK b with
  |some p=>(match tEq P p t x' y y' with|some r=>some r|none=>some (.bin b x' y'))
  |none=>some (.bin b x' y')
 |.unOp .not _ x=>do some (.not (<-tO x))
 |.unOp .neg t x=>match P.underlying t with
  |some (.int k)=>do some (.bin .sub (.k (.c (.int k (.ofNat 0)))) (<-tO x))
  |_=>none
 |.index _ x i=>do some (.adu (<-tO x) (<-tO i))
 |.convert _ d x=>match P.underlying d with
  |some (.int k)=>do some (.conv k (<-tO x))
  |some .string=>do some (.Zw (<-tO x))
  |_=>none
 |.build t ps=>match P.underlying t with
  |some (.struct fs)=>do
   let pl<-placesOf P fs.toList
   some (.build (<-tZ P t) (<-tPs (λi=>pl[i]?) ps.toList))
  |_=>none
 |.makeMap t none=>bif Nat.beq t 138 then some .JZ else some .MV
 |.lookup _ m k false=>do some (.lookup (<-tO m) (<-tO k))
 |.mapUpdate _ m k v=>do some (.TD (<-tO m) (<-tO k) (<-tO v))
 |.makeFunc (.func f) _ cs=>do some (.PU f (<-om tO cs.toList))
 |.slice t x lo hi mx=>bif Wp P t then(match lo with|some i=>do some (.QB (<-tO x) (<-tO i))|none=>none)else do
  let e<-tEl P t
  some (.slice (<-tSz P e) (<-tO x) (<-tOO lo) (<-tOO hi) (<-tOO mx))
 |.nilCheck x=>do some (.PV (<-tO x))
 |.alloc e=>do some (.alloc (<-tZ P e))
 |.box _ x=>do some (.box (<-tO x))
 |.makeSlice t l c=>do
  let e<-tEl P t
  some (.Kt (<-tBy P e) (<-tZ P e) (<-tO l) (<-tO c))
 |.buildSlice t len ps=>do
  let e<-tEl P t
  let n<-tSz P e
  some (.bsl n len (<-tZ P e) (<-tPs (λi=>some (i*n,n)) ps.toList))
 |.call c=>match c.callee,c.args.toList,c.argTypes.toList with
  |.value f,xs,_=>do some (.call (<-tO f) (<-om tO xs))
  |.builtin .len,[x],[t]=>do
   let y<-tO x
   bif Wp P t then some (.slen y)else some (.len y)
  |.builtin .min,[x,y],_=>do some (.min2 (<-tO x) (<-tO y))
  |.builtin .append,[s,x],[t,_]=>do
   let e<-tEl P t
   some (.app e (<-tSz P e) (<-tBy P e) (<-tO s) (<-tO x))
  |_,_,_=>none
 |_=>none
def tAO(P:Program)(ops:Array Oper)(o:Oper):Option AO:=match tOp P o.op with
 |some a=>(match o.guard with
  |none=>some ⟨o.dst,none,a⟩
  |some (j,b)=>(match(ops[j]?).bind (·.dst)with|some d=>some ⟨o.dst,some (d,b),a⟩|none=>none))
 |none=>none
def uni:List Nat->List Nat->List Nat
 |[],l=>l
 |x::r,l=>bif l.contains x then uni r l else uni r (x::l)
def ptE(acc:List (List Nat)):List Edge->List Nat->List Nat
 |[],l=>l
 |e::r,l=>bif Region.binds .any e then fL (uni (e.on::acc.getD e.on []) l) (ptE acc r)else ptE acc r l
def ptL{α:Sort _}:List Oper->List (List Nat)->(List (List Nat)->α)->α
 |[],acc,k=>k acc
 |o::r,acc,k=>fL (ptE acc o.after.toList []) λl=>ptL r (acc++[l]) k
def ap6:List AO->Nat->List Nat
 |[],_=>[]
 |a::l,i=>bif CU a.op.kind then ap6 l (i+1)else i::ap6 l (i+1)
def aoI:List AO->Nat->Nat->Option Nat
 |[],_,_=>none
 |a::l,i,t=>bif (match a.dst with|some d=>Nat.beq d t|none=>false)then some i else aoI l (i+1) t
def abG:List Operand->List Nat
 |[]=>[]
 |.tmp t::l=>t::abG l
 |_::l=>abG l
def aoJ(aos:List AO)(w:List Nat):List Nat->List Nat×List Nat
 |[]=>([],[])
 |t::l=>match aoI aos 0 t,aoJ aos w l with
  |some p,(us,os)=>bif w.contains p then(uni [p] us,os)else(us,uni [t] os)
  |none,r=>r
def ZM(w:List Nat):List Nat->Nat->Nat->Nat
 |[],_,b=>b
 |x::l,k,b=>bif w.contains x then ZM w l (k+1) k else ZM w l (k+1) b
def aun(pt:List (List Nat))(acts:List Nat)(aos:List AO):List Oper->List AO->Nat->List (Nat×DO)
 |o::r,a::l,i=>
  let w:=pt.getD i []
  match aoJ aos w (match a.g with|some (t,_)=>t::abG o.op.operands.toList|none=>abG o.op.operands.toList)with
  |(us,os)=>fL us λus=>fL os λos=>fN (ZM w acts 1 0) λs=>fN i λi=>(s,⟨i,us,os,a⟩)::aun pt acts aos r l (i+1)
 |_,_,_=>[]
def qOf(s:Nat):List (Nat×DO)->(List DO->Option Dr)->Option Dr
 |[],k=>k []
 |(t,d)::l,k=>bif Nat.beq t s&&CU d.o.op.kind then qOf s l λr=>k (d::r)else qOf s l k
def aoK(x:Nat):List (Nat×DO)->Option DO
 |[]=>none
 |(_,d)::l=>bif Nat.beq d.i x then some d else aoK x l
def tDr(Jg:List (Nat×DO)):List Nat->Nat->Option Dr
 |[],s=>qOf s Jg λq=>some (.fin q)
 |x::r,s=>match aoK x Jg,tDr Jg r (s+1)with
  |some d,some D=>qOf s Jg λq=>some (.act q d D)
  |_,_=>none
def dsL:List AO->List Nat
 |[]=>[]
 |a::l=>match a.dst with|some d=>d::dsL l|none=>dsL l
def axr(P:Program)(ops:Array Oper):Bool->Option AC
 |false=>(om (tAO P ops) ops.toList).map .ops
 |true=>match om (tAO P ops) ops.toList with
  |some aos=>ptL ops.toList [] λpt=>fL (ap6 aos 0) λacts=>(match tDr (aun pt acts aos ops.toList aos 0) acts 0 with
   |some D=>fL (dsL aos) λds=>some (.drawn D pt ds)
   |none=>none)
  |none=>none
def tC(P:Program):Code->Option AC
 |.skip|.label _=>some .skip
 |.region _ ops dr=>axr P ops dr
 |.seq a b=>match tC P a,tC P b with|some x,some y=>some (.seq x y)|_,_=>none
 |.cond c a b=>match tO c,tC P a,tC P b with|some z,some x,some y=>some (.cond z x y)|_,_,_=>none
 |.block i a=>match tC P a with|some x=>some (.block i x)|none=>none
 |.loop a=>match tC P a with|some x=>some (.loop x)|none=>none
 |.exit i=>some (.exit i)
 |.ret=>some .ret
 |_=>none
def ap7(P:Program):List ResultVar->Option (List (Nat×Option (Nat×Bool)))
 |[]=>some []
 |.tmp t::r=>match ap7 P r with|some l=>some ((t,none)::l)|none=>none
 |.cell t ty::r=>match tTy P ty,ap7 P r with|some g,some l=>some ((t,some g)::l)|_,_=>none
def tG(P:Program)(f:Nat):Option AF:=match P.funcs[f]? with
 |some fn=>(match fn.body with
  |some c=>(match tC P c,ap7 P fn.results.toList with
   |some b,some r=>fN fn.ntmps λn=>some ⟨n,b,r⟩
   |_,_=>none)
  |none=>none)
 |none=>none
def tF(P:Program)(f:Nat):Option AF:=match tG P f with
 |some F=>bif WE P f F then some F else none
 |none=>none
def aoL{P:Program}{f:Nat}{F:AF}(h:tG P f=some F)(hi:WE P f F=true):tF P f=some F:=by unfold tF;rw[h];dsimp only;rw[hi];rfl
def agm{P:Program}{f:Nat}{F:AF}(h:tF P f=some F):WE P f F=true:=by
 unfold tF at h;split at h
 .next F' _=>
  cases hi:WE P f F' with
  |false=>rw[hi]at h;cases h
  |true=>rw[hi]at h;cases h;exact hi
 .cases h
end
def aoM:ByteArray.mk (Array.mk [])=⟨#[]⟩:=rfl
def auo:ByteArray.mk (Array.mk [UInt8.ofBitVec (BitVec.ofFin ⟨1,jj⟩)])=bn 1:=rfl
end Go.Proofs.Xe
namespace Go.Proofs.Xe
open Go.RowKit Go.Proofs.Ins
def adK(cl cl':Nat->List V->St->Option (V×St)):Prop:=∀f args σ r,cl f args σ=some r->cl' f args σ=some r
section
variable {cl cl' : Nat→List V→St→Option (V×St)}
theorem WH(h:adK cl cl'){op:vV}{tm:Tr V}{σ:St}{r:V×St}(hs:oV cl op tm σ=some r):oV cl' op tm σ=some r:=by
 unfold oV at hs⊢;split at hs
 .exact hs
 .exact hs
 .exact hs
 .next e=>
  split at hs
  .next f args e2=>exact h _ _ _ _ hs
  omega
def Hr(h:adK cl cl'){o:AO}{tm:Tr V}{σ:St}{r:V×St}(hs:stepG cl o tm σ=some r):stepG cl' o tm σ=some r:=by grind[stepG,WH]
theorem Jh(h:adK cl cl'):∀{l:List AO}{tm:Tr V}{σ:St}{r:Tr V×St},sU cl l tm σ=some r->sU cl' l tm σ=some r
 |[],_,_,_,hs=>hs
 |o::l,tm,σ,r,hs=>by
  unfold sU at hs⊢;split at hs
  .next v σ' e=>
   rw[Hr h e];dsimp only;split at hs
   .next tm' e2=>exact Jh h hs
   .cases hs
  .cases hs
theorem TY(h:adK cl cl'){pt:List (List Nat)}{dR bV:Tr V}:∀{d:Dr}{σ:St}{res:List Rs}{pd:List iT}{r:Tr V×St},CO cl pt dR bV d σ res pd=some r->CO cl' pt dR bV d σ res pd=some r
 |.fin qs,σ,res,pd,r,hs=>by grind[CO]
 |.act qs x d,σ,res,pd,r,hs=>by
  unfold CO at hs⊢;split at hs
  .next σ1 res1 pd1 e=>
   cases hb:pd1.all (again σ1)with
   |false=>rw[hb]at hs;cases hs
   |true=>
    rw[hb]at hs
    simp only[cD]at hs⊢
    split at hs
    .next tm e2=>
     split at hs
     .next v σ2 e3=>
      rw[Hr h e3]
      exact TY h hs
     .cases hs
    .cases hs
  .cases hs
end
def Ua(E:Env):∀n,(∀c tm σ r,exec E n c tm σ=some r->exec E (n+1) c tm σ=some r)/\adK (jd E n) (jd E (n+1))
 |0=>⟨λc tm σ r h=>by grind[exec],λf args σ r h=>by grind[jd]⟩
 |n+1=>by
  obtain⟨h1,h2⟩:=Ua E n;refine⟨λc tm σ r h=>?_,λf args σ r h=>?_⟩
  .cases c with
   |skip=>grind[exec]
   |ops l=>
    simp only[exec,Wh]at h⊢
    grind[Go.Proofs.Xe.Jh]
   |drawn d pt ds=>
    simp only[exec,xDr,Wh]at h⊢
    grind[Go.Proofs.Xe.TY]
   |seq a b=>
    rw[exec]at h⊢
    cases hx:exec E n a tm σ with
    |none=>rw[hx]at h;cases h
    |some q=>
     rw[hx]at h
     rw[h1 _ _ _ _ hx]
     obtain⟨e,tm',σ'⟩:=q
     cases e with
     |normal=>exact h1 _ _ _ _ h
     |exit i=>exact h
     |ret=>exact h
   |cond x a b=>
    simp only[exec,abB]at h⊢
    split at h
    .exact h1 _ _ _ _ h
    .cases h
   |block i a=>
    rw[exec]at h⊢
    cases hx:exec E n a tm σ with
    |none=>rw[hx]at h;cases h
    |some q=>grind
   |loop a=>
    rw[exec]at h⊢
    cases hx:exec E n a tm σ with
    |none=>rw[hx]at h;cases h
    |some q=>
     rw[hx]at h
     rw[h1 _ _ _ _ hx]
     obtain⟨e,tm',σ'⟩:=q
     cases e with
     |normal=>exact h1 _ _ _ _ h
     |exit i=>exact h
     |ret=>exact h
   |exit i=>grind[exec]
   |ret=>grind[exec]
   |bad=>grind[exec]
  .rw[jd]at h⊢;unfold GY at h⊢;split at h
   .exact h
   .split at h
    .split at h
     .next tm e=>
      unfold adw at h⊢;grind
     .cases h
    .cases h
def En{E:Env}{n m:Nat}(h:n<=m){c:AC}{tm:Tr V}{σ:St}{r:AX×Tr V×St}(hx:exec E n c tm σ=some r):exec E m c tm σ=some r:=by
 induction h with
 |refl=>exact hx
 |step _ ih=>simp_all[Ua]
def nO{E:Env}{n m:Nat}(h:n<=m):adK (jd E n) (jd E m):=by
 induction h with
 |refl=>exact λ_ _ _ _ h=>h
 |step _ ih=>exact λf args σ r hx=>(Ua E _).2 _ _ _ _ (ih f args σ r hx)
def aC(E:Env)(f:Nat)(args:List V)(σ:St)(Q:V->St->Prop):Prop:=∃n v σ',jd E n f args σ=some (v,σ')/\Q v σ'
def bP(E:Env)(c:AC)(tm:Tr V)(σ:St)(Q:AX->Tr V->St->Prop):Prop:=∃n e tm' σ',exec E n c tm σ=some (e,tm',σ')/\Q e tm' σ'
section
variable {E:Env} {tm:Tr V} {σ:St} {Q Q' : AX→Tr V→St→Prop}
def aC.mono{f:Nat}{args:List V}{K K':V->St->Prop}(h:aC E f args σ K)(hk:∀v σ',K v σ'->K' v σ'):aC E f args σ K':=by obtain⟨n,v,σ',h1,h2⟩:=h;exact⟨n,v,σ',h1,hk _ _ h2⟩
def bP.mono{c:AC}(h:bP E c tm σ Q)(hk:∀e tm' σ',Q e tm' σ'->Q' e tm' σ'):bP E c tm σ Q':=by obtain⟨n,e,tm',σ',h1,h2⟩:=h;exact⟨n,e,tm',σ',h1,hk _ _ _ h2⟩
def Ub(E:Env)(b:AC)(Q:AX->Tr V->St->Prop):AX->Tr V->St->Prop
 |.normal,tm,σ=>bP E b tm σ Q
 |e,tm,σ=>Q e tm σ
def run_seq{a b:AC}(h:bP E a tm σ (Ub E b Q)):bP E (.seq a b) tm σ Q:=by
 obtain⟨n,e,tm',σ',h1,h2⟩:=h;cases e with
 |normal=>
  obtain⟨m,e2,VR,σ2,h3,h4⟩:=h2
  refine⟨n+m+1,e2,VR,σ2,?_,h4⟩
  rw[exec,En jb h1]
  exact En jb h3
 |exit i=>exact⟨n+1,_,tm',σ',by rw[exec,h1];rfl,h2⟩
 |ret=>exact⟨n+1,_,tm',σ',by rw[exec,h1];rfl,h2⟩
def WI(h:Q .normal tm σ):bP E .skip tm σ Q:=⟨1,_,_,_,by rw[exec],h⟩
def agp{i:Nat}(h:Q (.exit i) tm σ):bP E (.exit i) tm σ Q:=⟨1,_,_,_,by rw[exec],h⟩
def alb(h:Q .ret tm σ):bP E .ret tm σ Q:=⟨1,_,_,_,by rw[exec],h⟩
theorem agq{x:O}{a b:AC}{t:Bool}(hx:x.ev tm=.c (.bool t))(h:bP E (bif t then a else b) tm σ Q):bP E (.cond x a b) tm σ Q:=by obtain⟨n,e,tm',σ',h1,h2⟩:=h;exact⟨n+1,e,tm',σ',by rw[exec,hx];exact h1,h2⟩
def ags(i:Nat)(Q:AX->Tr V->St->Prop):AX->Tr V->St->Prop
 |.exit j,tm,σ=>Q (bif Nat.beq j i then .normal else .exit j) tm σ
 |e,tm,σ=>Q e tm σ
def Eo{i:Nat}{a:AC}(h:bP E a tm σ (ags i Q)):bP E (.block i a) tm σ Q:=by
 obtain⟨n,e,tm',σ',h1,h2⟩:=h;cases e with
 |normal=>exact⟨n+1,_,tm',σ',by rw[exec,h1];rfl,h2⟩
 |exit j=>exact⟨n+1,_,tm',σ',by rw[exec,h1];rfl,h2⟩
 |ret=>exact⟨n+1,_,tm',σ',by rw[exec,h1];rfl,h2⟩
def alc(I:Nat->Tr V->St->Prop)(m:Nat)(Q:AX->Tr V->St->Prop):AX->Tr V->St->Prop
 |.normal,tm,σ=>∃m',m'<m/\I m' tm σ
 |e,tm,σ=>Q e tm σ
def aF{a:AC}(I:Nat->Tr V->St->Prop)(m:Nat)(h0:I m tm σ)(h:∀m tm σ,I m tm σ->bP E a tm σ (alc I m Q)):bP E (.loop a) tm σ Q:=by
 induction m using Nat.strongRecOn generalizing tm σ with
 |ind m ih=>
  obtain⟨n,e,tm',σ',h1,h2⟩:=h m tm σ h0
  cases e with
  |normal=>
   obtain⟨m',hlt,hI⟩:=h2
   obtain⟨k,e2,VR,σ2,h3,h4⟩:=ih m' hlt hI
   refine⟨n+k+1,e2,VR,σ2,?_,h4⟩
   rw[exec,En jb h1]
   exact En jb h3
  |exit i=>exact⟨n+1,_,tm',σ',by rw[exec,h1];rfl,h2⟩
  |ret=>exact⟨n+1,_,tm',σ',by rw[exec,h1];rfl,h2⟩
def ER(tm:Tr V)(d:Option Nat)(v:V):Tr V:=match d with|none=>tm|some d=>tm.set d (some v)
theorem KP(tm:Tr V)(d:Option Nat)(v:V):Ja tm d v=some (ER tm d v):=by cases d<;>rfl
def wpOp(E:Env)(op:vV)(tm:Tr V)(σ:St)(K:V->St->Prop):Prop:=
 match op with
 |.call g args=>match g.ev tm with
  |.fn f caps=>aC E f (args.map (·.ev tm)++caps.map .c) σ K
  |_=>False
 |op=>match oV (λ_ _ _=>none) op tm σ with|some (v,σ')=>K v σ'|none=>False
def wpG(E:Env)(o:AO)(tm:Tr V)(σ:St)(K:V->St->Prop):Prop:=
 match gate o.g tm with
 |some true=>wpOp E o.op tm σ K
 |some false=>K .tnil σ
 |none=>False
def wpOps(E:Env):List AO->Tr V->St->(Tr V->St->Prop)->Prop
 |[],tm,σ,Q=>Q tm σ
 |o::r,tm,σ,Q=>wpG E o tm σ λv σ'=>wpOps E r (ER tm o.dst v) σ' Q
theorem adL{op:vV}{K:V->St->Prop}(h:wpOp E op tm σ K):∃n v σ',oV (jd E n) op tm σ=some (v,σ')/\K v σ':=by
 unfold wpOp at h;split at h
 .next g args=>
  split at h
  .next f caps e=>
   obtain⟨n,v,σ',h1,h2⟩:=h;grind[Go.Proofs.Xe.oV,Go.Proofs.Xe.vV.kind,Go.Proofs.Xe.abz]
  grind
 .split at h
  .next v σ' e=>exact⟨0,v,σ',WH (cl:=λ_ _ _=>none) (λ_ _ _ _ h=>by cases h) e,h⟩
  grind
def WJ{o:AO}{K:V->St->Prop}(h:wpG E o tm σ K):∃n v σ',stepG (jd E n) o tm σ=some (v,σ')/\K v σ':=by
 unfold wpG at h;split at h
 .grind[Go.Proofs.Xe.adL,Go.Proofs.Xe.stepG]
 .next e=>exact⟨0,_,_,by grind[stepG],h⟩
 grind
def NC:∀{l:List AO}{tm:Tr V}{σ:St}{Q:Tr V->St->Prop},wpOps E l tm σ Q->∃n tm' σ',sU (jd E n) l tm σ=some (tm',σ')/\Q tm' σ'
 |[],tm,σ,Q,h=>⟨0,tm,σ,rfl,h⟩
 |o::l,tm,σ,Q,h=>by obtain⟨n,v,σ1,h1,h2⟩:=WJ (show wpG E o tm σ _ from h);obtain⟨m,tm',σ',h3,h4⟩:=NC h2;refine⟨n+m,tm',σ',?_,h4⟩;unfold sU;rw[Hr (nO jb) h1];dsimp only;rw[KP];exact Jh (nO jb) h3
def ald{l:List AO}(h:wpOps E l tm σ λtm' σ'=>Q .normal tm' σ'):bP E (.ops l) tm σ Q:=by obtain⟨n,tm',σ',h1,h2⟩:=NC h;exact⟨n+1,.normal,tm',σ',by rw[exec,h1];rfl,h2⟩
def WL(E:Env)(pt:List (List Nat))(dR bV:Tr V):Dr->St->List Rs->List iT->(Tr V->St->Prop)->Prop
 |.fin qs,σ,res,pd,Q=>(match yx dR bV qs σ res pd with
  |some (σ,res,pd)=>pd.all (again σ)=true/\(match Ku bV res with|some tm=>Q tm σ|none=>False)
  |none=>False)
 |.act qs x r,σ,res,pd,Q=>(match yx dR bV qs σ res pd with
  |some (σ,res,pd)=>pd.all (again σ)=true/\(match MZ dR bV res x.us x.os with
   |some tm=>wpG E x.o tm σ λv σ'=>WL E pt dR bV r σ' (⟨x.i,x.o.dst,v⟩::res) (pd.filter λp=>!((pt.getD x.i []).contains p.i)) Q
   |none=>False)
  |none=>False)
def WM{pt:List (List Nat)}{dR bV:Tr V}:∀{d:Dr}{σ:St}{res:List Rs}{pd:List iT}{Q:Tr V->St->Prop},WL E pt dR bV d σ res pd Q->∃n tm' σ',CO (jd E n) pt dR bV d σ res pd=some (tm',σ')/\Q tm' σ'
 |.fin qs,σ,res,pd,Q,h=>by
  unfold WL at h;split at h
  .next σ1 res1 pd1 e=>
   obtain⟨h1,h2⟩:=h;split at h2
   .next tm e2=>exact⟨0,tm,σ1,by grind[CO],h2⟩
   grind
  grind
 |.act qs x r,σ,res,pd,Q,h=>by
  unfold WL at h;split at h
  .next σ1 res1 pd1 e=>
   obtain⟨h1,h2⟩:=h;split at h2
   .next tm e2=>
    obtain⟨n,v,σ2,h3,h4⟩:=WJ h2;obtain⟨m,tm',σ',h5,h6⟩:=WM h4;refine⟨n+m,tm',σ',?_,h6⟩;unfold CO;rw[e];dsimp only;rw[h1,e2];simp only[cD];rw[Hr (nO jb) h3];exact TY (nO jb) h5
   .exact h2.elim
  .exact h.elim
def adM{d:Dr}{pt:List (List Nat)}{ds:List Nat}(bV:Tr V)(he:AB tm ds=some bV)(h:WL E pt tm bV d σ [] [] λtm' σ'=>Q .normal tm' σ'):bP E (.drawn d pt ds) tm σ Q:=by obtain⟨n,tm',σ',h1,h2⟩:=WM h;exact⟨n+1,.normal,tm',σ',by rw[exec];unfold xDr;rw[he];dsimp only;rw[h1];rfl,h2⟩
def agt:List V->Nat->Tr V->Tr V
 |[],_,t=>t
 |v::r,i,t=>agt r (i+1) (t.set i (some v))
def ini(args:List V):Tr V:=agt args 0 .leaf
def ND:∀(args:List V) (i:Nat) (t:Tr V),GX args i t=some (agt args i t)
 |[],_,_=>rfl
 |v::r,i,t=>by unfold GX;show GX r (i+1) (t.set i (some v))=_;rw[ND r (i+1)];rfl
theorem WO:∀(args:List V) (i:Nat) (t:Tr V) (j:Nat),(agt args i t).get j=if i<=j/\j<i+args.length then args[j-i]? else t.get j
 |[],i,t,j=>by rw[ae kc];rfl
 |v::r,i,t,j=>by
  show(agt r (i+1) (t.set i (some v))).get j=_;rw[WO r (i+1)];simp only[bX];by_cases h:i+1<=j/\j<i+1+r.length
  .rw[ab h,ab jb,show j-i=(j-(i+1))+1 by omega,List.getElem?_cons_succ]
  .rw[ae h,Tr.uo];by_cases h2:j=i
   .subst h2;rw[ab rfl,ab jb,Nat.sub_self];rfl
   .rw[ae h2,ae jb]
theorem AP(args:List V)(j:Nat):(ini args).get j=args[j]?:=by grind[ini,WO,Tr.MR]
theorem ZN(args:List V):GX args 0 .leaf=some (ini args):=ND args 0 .leaf
def ZO(res:List (Nat×Option (Nat×Bool)))(K:V->St->Prop):AX->Tr V->St->Prop
 |.exit _,_,_=>False
 |_,tm,σ=>∃v,result tm σ res=some v/\K v σ
def aO{f:Nat}{args:List V}{F:AF}{K:V->St->Prop}(ho:E.V9 f args σ=none)(hF:E.fns f=some F)(h:bP E F.body (ini args) σ (ZO F.res K)):aC E f args σ K:=by
 obtain⟨n,e,tm',σ',h1,h2⟩:=h;cases e with
 |exit i=>exact h2.elim
 |normal=>
  obtain⟨v,h3,h4⟩:=h2
  exact⟨n+1,v,σ',by grind[jd,GY,ZN,adw],h4⟩
 |ret=>
  obtain⟨v,h3,h4⟩:=h2
  exact⟨n+1,v,σ',by grind[jd,GY,ZN,adw],h4⟩
def WQ{f:Nat}{args:List V}{v:V}{σ':St}{K:V->St->Prop}(ho:E.V9 f args σ=some (v,σ'))(h:K v σ'):aC E f args σ K:=
 ⟨1,v,σ',by grind[jd,GY],h⟩
end
end Go.Proofs.Xe
namespace Go.Proofs.Ins
def Ht(p q:Rat):Rat:=if q=0 then 0 else p/q
def okR(q:Rat):Bool:=!decide (q=0)
def Ji(p q:Rat):Rat:=if oQ p q<=0 then p else q
def Hu(p q:Rat):Rat:=if 0<=oQ p q then p else q
def amt(x:Nat):Rat:=if x%5=0 then(((x/5%23:Nat):Int):Rat)/(((1+x/115%6:Nat):Int):Rat)else if x%5=1 then(((10*(x/5%4):Nat):Int):Rat)else(((x/5%13:Nat):Int):Rat)
def abH{x:Nat}(h:x%5=0):amt x=(((x/5%23:Nat):Int):Rat)/(((1+x/115%6:Nat):Int):Rat):=by unfold amt;rw[ab h]
def agu{x:Nat}(h:x%5=1):amt x=(((10*(x/5%4):Nat):Int):Rat):=by unfold amt;rw[ae jb,ab h]
def agv{x:Nat}(h:¬x%5=0)(h1:¬x%5=1):amt x=(((x/5%13:Nat):Int):Rat):=by unfold amt;rw[ae h,ae h1]
def NG(i j:Int)(hj:0<j):fr (!(decide (i<0)==decide (j<0))) i.natAbs j.natAbs=(i:Rat)/(j:Rat):=by
 have hj0:(j:Rat)≠0:=by
  intro e;have:j=0:=by exact_mod_cast e
  omega
 rw[Zj hj0];have e1:rn (i:Rat)=decide (i<0):=rfl;have e2:rn (j:Rat)=decide (j<0):=rfl;have e3:nm (i:Rat)=i.natAbs:=rfl;have e4:nm (j:Rat)=j.natAbs:=rfl;have e5:(i:Rat).den=1:=rfl;have e6:(j:Rat).den=1:=rfl;rw[e1,e2,e3,e4,e5,e6,fT,Nat.one_mul];rfl
def ap9(n:Bool)(s d:ByteArray):Sm (s.size+d.size+1) (rq n s d):=atQ jb jb jb
def aqa(i:Int):fr (decide (i<0)) i.natAbs 1=(i:Rat):=by unfold fr;rw[Ci];exact(Rat.mkRat_self (i:Rat))
def adX(p q:Rat):Nat:=if rd p=rd q then nm p else nm p*q.den
def adY(p q:Rat):Nat:=if rd p=rd q then nm q else nm q*p.den
def adD(p q:Rat):Nat:=if rd p=rd q then p.den else p.den*q.den
def adN{p q:Rat}(h:rd p=rd q):p.den=q.den:=by rw[<-abr p,<-abr q,h]
def aqb(p q:Rat):p+q=mkRat (wz (rn p) (adX p q)+wz (rn q) (adY p q)) (adD p q):=by
 unfold adX adY adD;by_cases h:rd p=rd q
 .rw[ab h,ab h,ab h];exact V5 (adN h)
 .rw[ae h,ae h,ae h];exact Zl p q
end Go.Proofs.Ins
set_option maxRecDepth 100000
namespace Go.Proofs.Xe
open Go.RowKit Go.Proofs.Ins
def szK:Nat:=60000000
def Sz(q:Rat):Prop:=Sm szK q
def Ep(a:Nat):Prop:=(bn a).size<=60000000
def rV(q:Rat):V:=.agg [.bool (rn q),.str (rs q),.str (rd q)]
def rbV(q:Rat)(b:Bool):V:=.aV (rV q) (.aV (.c (.bool b)) .tnil)
def iV(i:Int):V:=.c (.int .i64 i)
def Sz.sizes{p:Rat}(h:Sz p):(rs p).size<=60000000/\(rd p).size<=60000000:=⟨Sm.rs h,Sm.rd h⟩
def Zb{a b:Nat}(h:bn a=bn b):a=b:=by rw[<-iw a,<-iw b,h]
abbrev kb(b:Bool):O:=.k (.c (.bool b))
abbrev d(n:Nat):Option Nat:=some n
abbrev s0:B:=.str ⟨#[]⟩
abbrev i0:B:=.int .i64 (.ofNat 0)
def PG(c:Bool)(R:Rat->Rat->V):List V->Option V
 |[.agg [.bool n,.str s,.str d],.agg [.bool m,.str t,.str e]]=>if(s.size+d.size<=130000000/\t.size+e.size<=130000000)/\(c=true->PN n s d/\PN m t e)then some (R (rq n s d) (rq m t e))else none
 |_=>none
def YX(c:Bool)(R:Rat->V):List V->Option V
 |[.agg [.bool n,.str s,.str d]]=>if s.size+d.size<=130000000/\(c=true->PN n s d)then some (R (rq n s d))else none
 |_=>none
def kVd:List V->Option V
 |[.agg [.bool n,.str s,.str d]]=>if s.size+d.size<=130000000 then some (.c (.bool (decide (PN n s d))))else none
 |_=>none
def kN1(R:Nat->V):List V->Option V
 |[.c (.str s)]=>if s.size<=1073741824 then some (R (nv s))else none
 |_=>none
def YZ(R:Nat->Nat->Option V):List V->Option V
 |[.c (.str s),.c (.str t)]=>if s.size<=1073741824/\t.size<=1073741824 then R (nv s) (nv t)else none
 |_=>none
def kB3(R:Bool->Nat->Nat->Option V):List V->Option V
 |[.c (.bool n),.c (.str s),.c (.str t)]=>if s.size<=1073741824/\t.size<=1073741824 then R n (nv s) (nv t)else none
 |_=>none
def kI(k:IntKind)(l h:Int)(R:Int->V):List V->Option V
 |[.c (.int j i)]=>if j=k/\l<=i/\i<=h then some (R i)else none
 |_=>none
def kQ(R:Int->Int->V):List V->Option V
 |[.c (.int j i),.c (.int k m)]=>if(j=.i64/\0<=i/\i<23)/\k=.i64/\0<m/\m<7 then some (R i m)else none
 |_=>none
def CY(c:Bool)(R:Rat->Rat->V){p q:Rat}(hp:Sz p)(hq:Sz q):PG c R [rV p,rV q]=some (R p q):=by unfold PG rV;have:=hp.sizes;have:=hq.sizes;simp only;rw[ab ⟨jb,λ_=>⟨Cj p,Cj q⟩⟩,Fe,Fe]
def ZP(c:Bool)(R:Rat->V){p:Rat}(hp:Sz p):YX c R [rV p]=some (R p):=by unfold YX rV;have:=hp.sizes;simp only;rw[ab ⟨jb,λ_=>Cj p⟩,Fe]
def aqc{p:Rat}(hp:Sz p):kVd [rV p]=some (.c (.bool true)):=by unfold kVd rV;have:=hp.sizes;simp only;rw[ab jb,be (Cj p)]
def NH(R:Nat->Nat->Option V){a b:Nat}{v:V}(ha:Ep a)(hb:Ep b)(h:R a b=some v):YZ R [.c (.str (bn a)),.c (.str (bn b))]=some v:=by unfold YZ Ep at*;simp only;rw[ab jb,iw,iw,h]
def aqd(R:Bool->Nat->Nat->Option V){n:Bool}{a b:Nat}{v:V}(ha:Ep a)(hb:Ep b)(h:R n a b=some v):kB3 R [.c (.bool n),.c (.str (bn a)),.c (.str (bn b))]=some v:=by unfold kB3 Ep at*;simp only;rw[ab jb,iw,iw,h]
noncomputable section
def jC(f:Nat):List V->Option V:=
 bif Nat.beq f 114 then(kN1 λa=>.c (.str (bn a)))else
 bif Nat.beq f 61 then(YZ λa b=>some (iV (qL a b)))else
 bif Nat.beq f 111 then(YZ λa b=>some (.c (.str (bn (a+b)))))else
 bif Nat.beq f 62 then(YZ λa b=>some (.c (.str (bn (a*b)))))else
 bif Nat.beq f 119 then(YZ λa b=>some (.c (.str (bn (Nat.gcd a b)))))else
 bif Nat.beq f 112 then(YZ λa b=>some (if b<=a then .aV (.c (.str (bn (a-b)))) (.aV (.c (.bool true)) .tnil)else .aV (.c (.str ⟨#[]⟩)) (.aV (.c (.bool false)) .tnil)))else
 bif Nat.beq f 120 then(YZ λa b=>if 0<b then some (.aV (.c (.str (bn (a/b)))) (.aV (.c (.str (bn (a%b)))) (.aV (.c (.bool true)) .tnil)))else none)else
 bif Nat.beq f 121 then(kI .u64 0 18446744073709551615 λi=>.c (.str (bn i.toNat)))else
 bif Nat.beq f 66 then(kI .i64 0 30 λi=>rV i)else
 bif Nat.beq f 23 then(kQ λi j=>rV ((i:Rat)/(j:Rat)))else
 bif Nat.beq f 21 then(kI .u16 0 65535 λi=>rV (amt i.toNat))else
 bif Nat.beq f 63 then(YX true λp=>.c (.str (bn p.den)))else
 bif Nat.beq f 113 then kVd else
 bif Nat.beq f 59 then(YX false λp=>rV p)else
 bif Nat.beq f 64 then(kB3 λn a b=>if 0<b then some (rV (fr n a b))else none)else
 bif Nat.beq f 196 then(kB3 λn a b=>some (if b=0 then rbV 0 false else rbV (fr n a b) true))else
 bif Nat.beq f 65 then(kI .i64 (-9223372036854775808) 9223372036854775807 λi=>.c (.str (bn i.natAbs)))else
 bif Nat.beq f 19 then(kI .i64 (-9223372036854775808) 9223372036854775807 λi=>rV i)else
 bif Nat.beq f 60 then(YX true λp=>iV (sg p))else
 bif Nat.beq f 20 then(YX false λp=>iV (sg p))else
 bif Nat.beq f 68 then(YX true λp=>rV (-p))else
 bif Nat.beq f 58 then(PG true λp q=>rV (p+q))else
 bif Nat.beq f 17 then(PG false λp q=>rV (p+q))else
 bif Nat.beq f 24 then(PG false λp q=>rV (p-q))else
 bif Nat.beq f 25 then(PG false λp q=>rV (p*q))else
 bif Nat.beq f 157 then(PG false λp q=>rbV (Ht p q) (okR q))else
 bif Nat.beq f 18 then(PG false λp q=>iV (oQ p q))else
 bif Nat.beq f 184 then(PG false λp q=>rV (Ji p q))else
 bif Nat.beq f 91 then(PG false λp q=>rV (Hu p q))else
 λ_=>none
end
class jK (E:Env) (f:Nat):Prop where
 o:∀args v σ,jC f args=some v->E.V9 f args σ=some (v,σ)
def agw{E:Env}{f:Nat}{args:List V}{v:V}{σ σ2:St}{K:V->St->Prop}(h:E.V9 f args σ=some (v,σ2)):aC E f args σ K=K v σ2:=by
 refine propext ⟨λ⟨n,v',σ',h1,h2⟩=>?_,λhk=>WQ h hk⟩;have h3:jd E 1 f args σ=some (v,σ2):=by rw[jd];unfold GY;rw[h]
 have a:=nO (show n<=n+1 by omega) f args σ _ h1;have b:=nO (show 1<=n+1 by omega) f args σ _ h3;rw[a]at b;cases b;exact h2
def aT{E:Env}{f:Nat}[hE:jK E f]{args:List V}{v:V}{σ:St}{K:V->St->Prop}(h:jC f args=some v):aC E f args σ K=K v σ:=agw (hE.o args v σ h)
def NI(P:Program)(f:Nat):Bool:=match P.funcs[f]? with|some fn=> !fn.body.isNone&& !(fn.name== "runtime.NumGoroutine")|none=>false
def yX{P:Program}{f:Nat}(h:NI P f=true):okF P f:=by
 unfold NI at h;split at h
 .next fn hfn=>
  simp only[af,ga]at h;exact⟨fn,hfn,h.1,h.2⟩
 .cases h
def Ct(P:Program)(f:Nat)(v:V)(bM:Array Value)(w:World):Prop:=
 Calls P f bM w λe w'=>∃cv,e=.returned cv/\Below w.heap.size w w'/\∀φ',RV φ' v cv
class zK (f:Nat):Prop where
 k:okF Tryz.prog f
 c:∀args v,jC f args=some v->∀(φ:Ph) (bM:Array Value) (w:World),G7 φ args bM.toList->Ct Tryz.prog f v bM w
class OkL (l:List Nat):Prop where
 o:∀f,l.contains f=true->zK f
class Mm (f:Nat) (l:List Nat):Prop where
 h:l.contains f=true
instance:OkL []:=⟨nofun⟩
instance {f:Nat}{l:List Nat} [h:zK f] [hl:OkL l]:OkL (f::l):=⟨λg hg=>by
 rw[List.contains_cons,ja]at hg;rcases hg with hg|hg
 .rw[eq_of_beq hg];exact h
 .exact hl.o g hg⟩
instance {f:Nat}{l:List Nat}:Mm f (f::l):=⟨by simp⟩
instance {f g:Nat}{l:List Nat} [h:Mm f l]:Mm f (g::l):=⟨by simpa using .inr (by simpa using h.h)⟩
def Eb(l:List Nat):Env:=⟨tF Tryz.prog,λf args σ=>bif l.contains f then(match jC f args with|some v=>some (v,σ)|none=>none)else none⟩
instance {f:Nat}{l:List Nat} [h:Mm f l]:jK (Eb l) f:=⟨λargs v σ hv=>by unfold Eb;dsimp only;rw[h.h,hv];rfl⟩
def zK.V9{f:Nat}(h:zK f){args:List V}{σ σ':St}{v:V}(ho:(match jC f args with|some v=>some (v,σ)|none=>none)=some (v,σ')):okF Tryz.prog f/\∀(N:Nat) (w0:World) (φ:Ph) (w:World) (bM:Array Value),Rel N w0 φ σ w->G7 φ args bM.toList->
  Calls Tryz.prog f bM w λe w'=>∃cv,e=.returned cv/\∃φ',Ext σ.aj φ φ'/\Rel N w0 φ' σ' w'/\RV φ' v cv/\σ.aj<=σ'.aj:=by
 split at ho
 .next u hu=>
  cases ho
  refine⟨h.k,λN w0 φ w bM hR ha=>(h.c _ _ hu φ bM w ha).mono λe w' he=>?_⟩
  obtain⟨cv,rfl,hb,hv⟩:=he
  exact⟨cv,rfl,φ,Ext.refl _ _,hR.below hb,hv φ,jp⟩
 .cases ho
def QN{l:List Nat}[h:OkL l]:Ny Tryz.prog (Eb l):=by
 refine⟨λf F h=>agm h,λf args σ v σ' ho=>?_⟩;unfold Eb at ho;dsimp only at ho;cases hc:l.contains f with
 |false=>rw[hc]at ho;cases ho
 |true=>rw[hc]at ho;exact(h.o f hc).V9 ho
def fB:B->Bool
 |.int ..|.bool _|.str _=>true
 |_=>false
def fV:V->Bool
 |.c x=>fB x
 |.agg l=>l.all fB
 |.aV a r=>fV a&&fV r
 |.tnil=>true
 |_=>false
section
variable {φ φ' : Ph}
def RB.flat{x:B}{v:Value}(h:fB x=true)(hv:RB φ x v):RB φ' x v:=by cases x<;>first|exact hv|cases h
def kH.flat:∀{l:List B}{r:List Value},l.all fB=true->kH φ l r->kH φ' l r
 |[],[],_,_=>trivial
 |_::_,_::_,h,hv=>by rw[cW,af]at h;exact⟨hv.1.flat h.1,kH.flat h.2 hv.2⟩
 |[],_::_,_,hv=>hv.elim
 |_::_,[],_,hv=>hv.elim
def RV.flat:∀{x:V}{v:Value},fV x=true->RV φ x v->RV φ' x v
 |.c _,_,h,hv=>RB.flat h hv
 |.agg _,_,h,⟨r,e,hr⟩=>⟨r,e,hr.flat h⟩
 |.aV _ _,_,h,⟨x,xs,e,h1,h2⟩=>by unfold fV at h;rw[af]at h;exact⟨x,xs,e,h1.flat h.1,h2.flat h.2⟩
 |.tnil,_,_,hv=>hv
def G7.flat:∀{l:List V}{r:List Value},l.all fV=true->G7 φ l r->G7 φ' l r
 |[],[],_,_=>trivial
 |_::_,_::_,h,hv=>by rw[cW,af]at h;exact⟨hv.1.flat h.1,G7.flat h.2 hv.2⟩
 |[],_::_,_,hv=>hv.elim
 |_::_,[],_,hv=>hv.elim
end
def axt(w:World):Rel w.heap.size w (λ_=>none) ⟨.leaf,0⟩ w:=
 ⟨jp,Below.refl _ _,nofun,nofun,nofun,nofun,λb _=>⟨rfl,Tr.MR b⟩⟩
def FV{E:Env}(hE:Ny Tryz.prog E){f:Nat}{args:List V}{v:V}(ha:args.all fV=true)(hv:fV v=true)(h:aC E f args ⟨.leaf,0⟩ λr _=>r=v)(φ:Ph)(bM:Array Value)(w:World)(hr:G7 φ args bM.toList):Ct Tryz.prog f v bM w:=by obtain⟨n,r,σ',h1,rfl⟩:=h;refine(QM hE (by kernel_rfl) h1 (axt w) (hr.flat ha)).mono λe w' he=>?_;obtain⟨cv,rfl,φ',-,hR,hc,-⟩:=he;exact⟨cv,rfl,hR.bel,λφ=>hc.flat hv⟩
structure QO(k:Nat) where
 a:AF
 g:tG Tryz.prog k=some a:=by conv=>(lhs;reduce;simp only[aoM,auo])
 i:WE Tryz.prog k a=true:=by kernel_rfl
def qO{f:Nat}{l:List Nat}(b:QO f)(hl:l.contains f=false){args:List V}{σ:St}{K:V->St->Prop}(h:bP (Eb l) b.a.body (ini args) σ (ZO b.a.res K)):aC (Eb l) f args σ K:=
 aO (by unfold Eb;dsimp only;rw[hl];rfl) (aoL b.g b.i) h
section
variable {E:Env} {σ:St} {K:V→St→Prop}
def vW:jC 114=kN1 (λa=>.c (.str (bn a))):=rfl
def yH:jC 61=YZ (λa b=>some (iV (qL a b))):=rfl
def yY:jC 111=YZ (λa b=>some (.c (.str (bn (a+b))))):=rfl
def aqe[jK E 111](a b:Nat)(h1:Ep a)(h2:Ep b):aC E 111 [.c (.str (bn a)),.c (.str (bn b))] σ K=K (.c (.str (bn (a+b)))) σ:=aT ((cg yY _).trans (NH _ h1 h2 (by first|rfl|simp)))
def pO:jC 62=YZ (λa b=>some (.c (.str (bn (a*b))))):=rfl
def WR[jK E 62](a b:Nat)(h1:Ep a)(h2:Ep b):aC E 62 [.c (.str (bn a)),.c (.str (bn b))] σ K=K (.c (.str (bn (a*b)))) σ:=aT ((cg pO _).trans (NH _ h1 h2 (by first|rfl|simp)))
def yZ:jC 119=YZ (λa b=>some (.c (.str (bn (Nat.gcd a b))))):=rfl
def aqf[jK E 119](a b:Nat)(h1:Ep a)(h2:Ep b):aC E 119 [.c (.str (bn a)),.c (.str (bn b))] σ K=K (.c (.str (bn (Nat.gcd a b)))) σ:=aT ((cg yZ _).trans (NH _ h1 h2 (by first|rfl|simp)))
def pU:jC 112=YZ (λa b=>some (if b<=a then .aV (.c (.str (bn (a-b)))) (.aV (.c (.bool true)) .tnil)else .aV (.c (.str ⟨#[]⟩)) (.aV (.c (.bool false)) .tnil))):=rfl
def WS[jK E 112](a b:Nat)(h1:Ep a)(h2:Ep b):aC E 112 [.c (.str (bn a)),.c (.str (bn b))] σ K=K (if b<=a then .aV (.c (.str (bn (a-b)))) (.aV (.c (.bool true)) .tnil)else .aV (.c (.str ⟨#[]⟩)) (.aV (.c (.bool false)) .tnil)) σ:=aT ((cg pU _).trans (NH _ h1 h2 (by first|rfl|simp)))
def sW:jC 120=YZ (λa b=>if 0<b then some (.aV (.c (.str (bn (a/b)))) (.aV (.c (.str (bn (a%b)))) (.aV (.c (.bool true)) .tnil)))else none):=rfl
def adO[jK E 120](a b:Nat)(h1:Ep a)(h2:Ep b)(h0:0<b):aC E 120 [.c (.str (bn a)),.c (.str (bn b))] σ K=K (.aV (.c (.str (bn (a/b)))) (.aV (.c (.str (bn (a%b)))) (.aV (.c (.bool true)) .tnil))) σ:=aT ((cg sW _).trans (NH _ h1 h2 (ab h0)))
def pV:jC 121=kI .u64 0 18446744073709551615 (λi=>.c (.str (bn i.toNat))):=rfl
def WT[jK E 121](x:Nat)(h1:x<18446744073709551616):aC E 121 [.c (.int .u64 (.ofNat x))] σ K=K (.c (.str (bn x))) σ:=aT ((cg pV _).trans (ab ⟨rfl,by simp,by simp only[dO];omega⟩))
def Hw:jC 66=kI .i64 0 30 (λi=>rV i):=rfl
def agx[jK E 66](x:Nat)(h1:x<=30):aC E 66 [.c (.int .i64 (.ofNat x))] σ K=K (.agg [.bool (rn ((Int.ofNat x:Int):Rat)),.str (rs ((Int.ofNat x:Int):Rat)),.str (rd ((Int.ofNat x:Int):Rat))]) σ:=aT ((cg Hw _).trans (ab ⟨rfl,by simp,by simp only[dO];omega⟩))
def Uc:jC 23=kQ (λi j=>rV ((i:Rat)/(j:Rat))):=rfl
def Fz:jC 21=kI .u16 0 65535 (λi=>rV (amt i.toNat)):=rfl
def adP[jK E 21](x:Nat)(h1:x<=65535):aC E 21 [.c (.int .u16 (.ofNat x))] σ K=K (.agg [.bool (rn (amt x)),.str (rs (amt x)),.str (rd (amt x))]) σ:=aT ((cg Fz _).trans (ab ⟨rfl,by simp,by simp only[dO];omega⟩))
def fK:jC 63=YX true (λp=>.c (.str (bn p.den))):=rfl
def sZ:jC 113=kVd:=rfl
def abI[jK E 113](p:Rat)(hp:Sz p):aC E 113 [.agg [.bool (rn p),.str (rs p),.str (rd p)]] σ K=K (.c (.bool true)) σ:=aT ((cg sZ _).trans (aqc hp))
def nX:jC 59=YX false (λp=>rV p):=rfl
def alf[jK E 59](p:Rat)(hp:Sz p):aC E 59 [.agg [.bool (rn p),.str (rs p),.str (rd p)]] σ K=K (.agg [.bool (rn p),.str (rs p),.str (rd p)]) σ:=aT ((cg nX _).trans (ZP _ _ hp))
def WU[jK E 59](n:Bool)(s d:ByteArray)(h1:s.size+d.size<=130000000):aC E 59 [.agg [.bool n,.str s,.str d]] σ K=K (.agg [.bool (rn (rq n s d)),.str (rs (rq n s d)),.str (rd (rq n s d))]) σ:=aT ((cg nX _).trans (ab ⟨h1,nofun⟩))
def xw:jC 64=kB3 (λn a b=>if 0<b then some (rV (fr n a b))else none):=rfl
def uX:jC 196=kB3 (λn a b=>some (if b=0 then rbV 0 false else rbV (fr n a b) true)):=rfl
def aqg[jK E 196](n:Bool)(a b:Nat)(h1:Ep a)(h2:Ep b)(h0:0<b):aC E 196 [.c (.bool n),.c (.str (bn a)),.c (.str (bn b))] σ K=K (.aV (.agg [.bool (rn (fr n a b)),.str (rs (fr n a b)),.str (rd (fr n a b))]) (.aV (.c (.bool true)) .tnil)) σ:=aT ((cg uX _).trans (aqd _ h1 h2 (by rw[ae jb];rfl)))
def uJ:jC 65=kI .i64 (-9223372036854775808) 9223372036854775807 (λi=>.c (.str (bn i.natAbs))):=rfl
def CZ:jC 19=kI .i64 (-9223372036854775808) 9223372036854775807 (λi=>rV i):=rfl
def aup[jK E 19](i:Int)(h1: -9223372036854775808<=i)(h2:i<=9223372036854775807):aC E 19 [.c (.int .i64 i)] σ K=K (.agg [.bool (rn i),.str (rs i),.str (rd i)]) σ:=aT ((cg CZ _).trans (ab ⟨rfl,h1,h2⟩))
def jL:jC 60=YX true (λp=>iV (sg p)):=rfl
def uY:jC 20=YX false (λp=>iV (sg p)):=rfl
def aqh[jK E 20](p:Rat)(hp:Sz p):aC E 20 [.agg [.bool (rn p),.str (rs p),.str (rd p)]] σ K=K (.c (.int .i64 (sg p))) σ:=aT ((cg uY _).trans (ZP _ _ hp))
def alg[jK E 20](n:Bool)(s d:ByteArray)(h1:s.size+d.size<=130000000):aC E 20 [.agg [.bool n,.str s,.str d]] σ K=K (.c (.int .i64 (sg (rq n s d)))) σ:=aT ((cg uY _).trans (ab ⟨h1,nofun⟩))
def qP:jC 68=YX true (λp=>rV (-p)):=rfl
def agy[jK E 68](p:Rat)(hp:Sz p):aC E 68 [.agg [.bool (rn p),.str (rs p),.str (rd p)]] σ K=K (.agg [.bool (rn (-p)),.str (rs (-p)),.str (rd (-p))]) σ:=aT ((cg qP _).trans (ZP _ _ hp))
def qQ:jC 58=PG true (λp q=>rV (p+q)):=rfl
def auq[jK E 58](p q:Rat)(hp:Sz p)(hq:Sz q):aC E 58 [.agg [.bool (rn p),.str (rs p),.str (rd p)],.agg [.bool (rn q),.str (rs q),.str (rd q)]] σ K=K (.agg [.bool (rn (p+q)),.str (rs (p+q)),.str (rd (p+q))]) σ:=aT ((cg qQ _).trans (CY _ _ hp hq))
def xA:jC 17=PG false (λp q=>rV (p+q)):=rfl
def aur[jK E 17](p q:Rat)(hp:Sz p)(hq:Sz q):aC E 17 [.agg [.bool (rn p),.str (rs p),.str (rd p)],.agg [.bool (rn q),.str (rs q),.str (rd q)]] σ K=K (.agg [.bool (rn (p+q)),.str (rs (p+q)),.str (rd (p+q))]) σ:=aT ((cg xA _).trans (CY _ _ hp hq))
def aqi[jK E 17](n m:Bool)(s d t e:ByteArray)(h1:s.size+d.size<=130000000)(h2:t.size+e.size<=130000000):aC E 17 [.agg [.bool n,.str s,.str d],.agg [.bool m,.str t,.str e]] σ K=K (.agg [.bool (rn ((rq n s d)+(rq m t e))),.str (rs ((rq n s d)+(rq m t e))),.str (rd ((rq n s d)+(rq m t e)))]) σ:=aT ((cg xA _).trans (ab ⟨⟨h1,h2⟩,nofun⟩))
def oD:jC 24=PG false (λp q=>rV (p-q)):=rfl
def ZQ[jK E 24](p q:Rat)(hp:Sz p)(hq:Sz q):aC E 24 [.agg [.bool (rn p),.str (rs p),.str (rd p)],.agg [.bool (rn q),.str (rs q),.str (rd q)]] σ K=K (.agg [.bool (rn (p-q)),.str (rs (p-q)),.str (rd (p-q))]) σ:=aT ((cg oD _).trans (CY _ _ hp hq))
def WV[jK E 24](n m:Bool)(s d t e:ByteArray)(h1:s.size+d.size<=130000000)(h2:t.size+e.size<=130000000):aC E 24 [.agg [.bool n,.str s,.str d],.agg [.bool m,.str t,.str e]] σ K=K (.agg [.bool (rn ((rq n s d)-(rq m t e))),.str (rs ((rq n s d)-(rq m t e))),.str (rd ((rq n s d)-(rq m t e)))]) σ:=aT ((cg oD _).trans (ab ⟨⟨h1,h2⟩,nofun⟩))
def vX:jC 25=PG false (λp q=>rV (p*q)):=rfl
def ZR[jK E 25](p q:Rat)(hp:Sz p)(hq:Sz q):aC E 25 [.agg [.bool (rn p),.str (rs p),.str (rd p)],.agg [.bool (rn q),.str (rs q),.str (rd q)]] σ K=K (.agg [.bool (rn (p*q)),.str (rs (p*q)),.str (rd (p*q))]) σ:=aT ((cg vX _).trans (CY _ _ hp hq))
def yI:jC 157=PG false (λp q=>rbV (Ht p q) (okR q)):=rfl
def agz[jK E 157](p q:Rat)(hp:Sz p)(hq:Sz q):aC E 157 [.agg [.bool (rn p),.str (rs p),.str (rd p)],.agg [.bool (rn q),.str (rs q),.str (rd q)]] σ K=K (.aV (.agg [.bool (rn (Ht p q)),.str (rs (Ht p q)),.str (rd (Ht p q))]) (.aV (.c (.bool (okR q))) .tnil)) σ:=aT ((cg yI _).trans (CY _ _ hp hq))
def lK:jC 18=PG false (λp q=>iV (oQ p q)):=rfl
def adQ[jK E 18](p q:Rat)(hp:Sz p)(hq:Sz q):aC E 18 [.agg [.bool (rn p),.str (rs p),.str (rd p)],.agg [.bool (rn q),.str (rs q),.str (rd q)]] σ K=K (.c (.int .i64 (oQ p q))) σ:=aT ((cg lK _).trans (CY _ _ hp hq))
def xB:jC 184=PG false (λp q=>rV (Ji p q)):=rfl
def aus[jK E 184](p q:Rat)(hp:Sz p)(hq:Sz q):aC E 184 [.agg [.bool (rn p),.str (rs p),.str (rd p)],.agg [.bool (rn q),.str (rs q),.str (rd q)]] σ K=K (.agg [.bool (rn (Ji p q)),.str (rs (Ji p q)),.str (rd (Ji p q))]) σ:=aT ((cg xB _).trans (CY _ _ hp hq))
def aqj[jK E 184](n m:Bool)(s d t e:ByteArray)(h1:s.size+d.size<=130000000)(h2:t.size+e.size<=130000000):aC E 184 [.agg [.bool n,.str s,.str d],.agg [.bool m,.str t,.str e]] σ K=K (.agg [.bool (rn (Ji (rq n s d) (rq m t e))),.str (rs (Ji (rq n s d) (rq m t e))),.str (rd (Ji (rq n s d) (rq m t e)))]) σ:=aT ((cg xB _).trans (ab ⟨⟨h1,h2⟩,nofun⟩))
def xC:jC 91=PG false (λp q=>rV (Hu p q)):=rfl
def aut[jK E 91](p q:Rat)(hp:Sz p)(hq:Sz q):aC E 91 [.agg [.bool (rn p),.str (rs p),.str (rd p)],.agg [.bool (rn q),.str (rs q),.str (rd q)]] σ K=K (.agg [.bool (rn (Hu p q)),.str (rs (Hu p q)),.str (rd (Hu p q))]) σ:=aT ((cg xC _).trans (CY _ _ hp hq))
def aqk[jK E 91](n m:Bool)(s d t e:ByteArray)(h1:s.size+d.size<=130000000)(h2:t.size+e.size<=130000000):aC E 91 [.agg [.bool n,.str s,.str d],.agg [.bool m,.str t,.str e]] σ K=K (.agg [.bool (rn (Hu (rq n s d) (rq m t e))),.str (rs (Hu (rq n s d) (rq m t e))),.str (rd (Hu (rq n s d) (rq m t e)))]) σ:=aT ((cg xC _).trans (ab ⟨⟨h1,h2⟩,nofun⟩))
end
end Go.Proofs.Xe
end
