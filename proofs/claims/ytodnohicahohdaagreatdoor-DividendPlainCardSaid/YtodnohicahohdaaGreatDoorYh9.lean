import Derived.Test.YtodnohicahohdaaGreatDoorYh8
set_option linter.all false
noncomputable section
namespace Go.Proofs.Xe
open Go Go.RowKit Go.Proofs.Ins
noncomputable section
def om{α β:Type}(f:α->Option β):List α->Option (List β)
 |[]=>some []
 |x::l=>match f x,om f l with|some y,some r=>some (y::r)|_,_=>none
def fL{α:Sort _}:List Nat->(List Nat->α)->α
 |[],k=>k []
 |x::l,k=>fN x λx=>fL l λl=>k (x::l)
def tB:Value->Option B
 |.int k n=>some (.int k n)
 |.bool b=>some (.bool b)
 |.string s=>bif Nat.beq s.size 0 then some (.str ⟨#[]⟩)else some (.str s)
 |.pointer none=>some .VZ
 |.slice none 0 0=>some .aQ
 |_=>none
def tV:Value->Option V
 |.agg r=>(om tB r.toList).map .agg
 |.nilFunc=>some .Pq
 |v=>(tB v).map .c
def tO:Operand->Option O
 |.tmp t=>some (.t t)
 |.const v=>(tV v).map .k
 |.func f=>some (.k (.fn f []))
 |_=>none
def tOO:Option Operand->Option (Option O)
 |none=>some none
 |some x=>(tO x).map some
def tZ(P:Program)(t:TypeId):Option (List B):=match P.info? t with
 |some i=>(match i.zero with|some z=>om tB z.cells.toList|none=>none)
 |none=>none
def tTy(P:Program)(t:TypeId):Option (Nat×Bool):=match P.info? t,P.underlying t with
 |some i,some d=>fN i.size λn=>some (n,ax6 d)
 |_,_=>none
def tEl(P:Program)(t:TypeId):Option TypeId:=match P.underlying t with|some (.slice e)=>some e|_=>none
def tSz(P:Program)(t:TypeId):Option Nat:=match P.info? t with|some i=>fN i.size some|none=>none
def tBy(P:Program)(t:TypeId):Option Nat:=match P.info? t with|some i=>fN i.bytes some|none=>none
def tPs(g:Nat->Option (Nat×Nat)):List (Nat×Operand)->Option (List (Nat×Nat×O)):=om λx=>match g x.1,tO x.2 with|some p,some y=>fN p.1 λa=>fN p.2 λb=>some (a,b,y)|_,_=>none
def eqK:BinOp->Option Bool
 |.eql=>some true
 |.neq=>some false
 |_=>none
def tEq(P:Program)(p:Bool)(t:TypeId)(x:O)(y:Operand)(z:O):Option xq:=match P.underlying t with
 |some .bool=>some (.eqb p x z)
 |some (.struct _)=>bif YL P t then some (.Jg p x z)else some (.Hu p x z)
 |some (.slice _)=>some (.nil 0 p x)
 |some (.pointer _)=>some (.nil 1 p x)
 |some (.func ..)=>some (.nil 2 p x)
 |_=>none
def tOp(P:Program):Op->Option xq
 |.move x|.assign x=>do some (.MH (<-tO x))
 |.pick c a b=>do some (.pick (<-tO c) (<-tO a) (<-tO b))
 |.load t x=>do
  let g<-tTy P t
  some (.load g.1 g.2 (<-tO x))
 |.store t x u=>do some (.store (<-tSz P t) (<-tO x) (<-tO u))
 |.fieldAddr s x f=>do
  let fd<-F6 P s f
  some (.Ei fd.offset (<-tO x))
 |.field s x f=>do
  let fd<-F6 P s f
  let g<-tTy P fd.type
  some (.field fd.offset g.1 g.2 (<-tO x))
 |.indexAddr t x i=>match P.underlying t,i with
  |some (.slice el),i=>do some (.Ej (<-tSz P el) (<-tO x) (<-tO i))
  |some (.array _ el),.const (.int _ (.ofNat j))=>do
   let n<-tSz P el
   let y<-tO x
   fN (j*n) λm=>some (.Ei m y)
  |_,_=>none
 |.extract x i=>do some (.ext i (<-tO x))
 |.binOp b t x y _=>do
  let x'<-tO x
  let y'<-tO y
  match eqK b with
  |some p=>(match tEq P p t x' y y' with|some r=>some r|none=>some (.bin b x' y'))
  |none=>some (.bin b x' y')
 |.unOp .not _ x=>do some (.not (<-tO x))
 |.unOp .neg t x=>match P.underlying t with
  |some (.int k)=>do some (.bin .sub (.k (.c (.int k (.ofNat 0)))) (<-tO x))
  |_=>none
 |.index _ x i=>do some (.Tz (<-tO x) (<-tO i))
 |.convert _ d x=>match P.underlying d with
  |some (.int k)=>do some (.conv k (<-tO x))
  |some .string=>do some (.YF (<-tO x))
  |_=>none
 |.build t ps=>match P.underlying t with
  |some (.struct fs)=>do
   let pl<-placesOf P fs.toList
   some (.build (<-tZ P t) (<-tPs (λi=>pl[i]?) ps.toList))
  |_=>none
 |.makeMap t none=>bif Nat.beq t 143 then some .MI else some .Px
 |.lookup _ m k false=>do some (.lookup (<-tO m) (<-tO k))
 |.mapUpdate _ m k v=>do some (.V3 (<-tO m) (<-tO k) (<-tO v))
 |.makeFunc (.func f) _ cs=>do some (.Tq f (<-om tO cs.toList))
 |.slice t x lo hi mx=>bif YM P t then(match lo with|some i=>do some (.Pv (<-tO x) (<-tO i))|none=>none)else do
  let e<-tEl P t
  some (.slice (<-tSz P e) (<-tO x) (<-tOO lo) (<-tOO hi) (<-tOO mx))
 |.nilCheck x=>do some (.Tv (<-tO x))
 |.alloc e=>do some (.alloc (<-tZ P e))
 |.box _ x=>do some (.box (<-tO x))
 |.makeSlice t l c=>do
  let e<-tEl P t
  some (.Nu (<-tBy P e) (<-tZ P e) (<-tO l) (<-tO c))
 |.buildSlice t len ps=>do
  let e<-tEl P t
  let n<-tSz P e
  some (.bsl n len (<-tZ P e) (<-tPs (λi=>some (i*n,n)) ps.toList))
 |.call c=>match c.callee,c.args.toList,c.argTypes.toList with
  |.value f,xs,_=>do some (.call (<-tO f) (<-om tO xs))
  |.builtin .len,[x],[t]=>do
   let y<-tO x
   bif YM P t then some (.slen y)else some (.len y)
  |.builtin .min,[x,y],_=>do some (.min2 (<-tO x) (<-tO y))
  |.builtin .append,[s,x],[t,_]=>do
   let e<-tEl P t
   some (.app e (<-tSz P e) (<-tBy P e) (<-tO s) (<-tO x))
  |_,_,_=>none
 |_=>none
def tAO(P:Program)(ops:Array Oper)(o:Oper):Option AO:=match tOp P o.op with
 |some a=>(match o.guard with
  |none=>some ⟨o.dst,none,a⟩
  |some (j,b)=>(match(ops[j]?).bind (·.dst)with|some d=>some ⟨o.dst,some (d,b),a⟩|none=>none))
 |none=>none
def uni:List Nat->List Nat->List Nat
 |[],l=>l
 |x::r,l=>bif l.contains x then uni r l else uni r (x::l)
def ptE(acc:List (List Nat)):List Edge->List Nat->List Nat
 |[],l=>l
 |e::r,l=>bif Region.binds .any e then fL (uni (e.on::acc.getD e.on []) l) (ptE acc r)else ptE acc r l
def ptL{α:Sort _}:List Oper->List (List Nat)->(List (List Nat)->α)->α
 |[],acc,k=>k acc
 |o::r,acc,k=>fL (ptE acc o.after.toList []) λl=>ptL r (acc++[l]) k
def atK:List AO->Nat->List Nat
 |[],_=>[]
 |a::l,i=>bif Et a.op.kind then atK l (i+1)else i::atK l (i+1)
def asv:List AO->Nat->Nat->Option Nat
 |[],_,_=>none
 |a::l,i,t=>bif (match a.dst with|some d=>Nat.beq d t|none=>false)then some i else asv l (i+1) t
def aee:List Operand->List Nat
 |[]=>[]
 |.tmp t::l=>t::aee l
 |_::l=>aee l
def asw(aos:List AO)(w:List Nat):List Nat->List Nat×List Nat
 |[]=>([],[])
 |t::l=>match asv aos 0 t,asw aos w l with
  |some p,(us,os)=>bif w.contains p then(uni [p] us,os)else(us,uni [t] os)
  |none,r=>r
def ab7(w:List Nat):List Nat->Nat->Nat->Nat
 |[],_,b=>b
 |x::l,k,b=>bif w.contains x then ab7 w l (k+1) k else ab7 w l (k+1) b
def ayl(pt:List (List Nat))(acts:List Nat)(aos:List AO):List Oper->List AO->Nat->List (Nat×DO)
 |o::r,a::l,i=>
  let w:=pt.getD i []
  match asw aos w (match a.g with|some (t,_)=>t::aee o.op.operands.toList|none=>aee o.op.operands.toList)with
  |(us,os)=>fL us λus=>fL os λos=>fN (ab7 w acts 1 0) λs=>fN i λi=>(s,⟨i,us,os,a⟩)::ayl pt acts aos r l (i+1)
 |_,_,_=>[]
def qOf(s:Nat):List (Nat×DO)->(List DO->Option Dr)->Option Dr
 |[],k=>k []
 |(t,d)::l,k=>bif Nat.beq t s&&Et d.o.op.kind then qOf s l λr=>k (d::r)else qOf s l k
def asx(x:Nat):List (Nat×DO)->Option DO
 |[]=>none
 |(_,d)::l=>bif Nat.beq d.i x then some d else asx x l
def tDr(KR:List (Nat×DO)):List Nat->Nat->Option Dr
 |[],s=>qOf s KR λq=>some (.fin q)
 |x::r,s=>match asx x KR,tDr KR r (s+1)with
  |some d,some D=>qOf s KR λq=>some (.act q d D)
  |_,_=>none
def dsL:List AO->List Nat
 |[]=>[]
 |a::l=>match a.dst with|some d=>d::dsL l|none=>dsL l
def aBE(P:Program)(ops:Array Oper):Bool->Option AC
 |false=>(om (tAO P ops) ops.toList).map .ops
 |true=>match om (tAO P ops) ops.toList with
  |some aos=>ptL ops.toList [] λpt=>fL (atK aos 0) λacts=>(match tDr (ayl pt acts aos ops.toList aos 0) acts 0 with
   |some D=>fL (dsL aos) λds=>some (.drawn D pt ds)
   |none=>none)
  |none=>none
def tC(P:Program):Code->Option AC
 |.skip|.label _=>some .skip
 |.region _ ops dr=>aBE P ops dr
 |.seq a b=>match tC P a,tC P b with|some x,some y=>some (.seq x y)|_,_=>none
 |.cond c a b=>match tO c,tC P a,tC P b with|some z,some x,some y=>some (.cond z x y)|_,_,_=>none
 |.block i a=>match tC P a with|some x=>some (.block i x)|none=>none
 |.loop a=>match tC P a with|some x=>some (.loop x)|none=>none
 |.exit i=>some (.exit i)
 |.ret=>some .ret
 |_=>none
def atL(P:Program):List ResultVar->Option (List (Nat×Option (Nat×Bool)))
 |[]=>some []
 |.tmp t::r=>match atL P r with|some l=>some ((t,none)::l)|none=>none
 |.cell t ty::r=>match tTy P ty,atL P r with|some g,some l=>some ((t,some g)::l)|_,_=>none
def tG(P:Program)(f:Nat):Option AF:=match P.funcs[f]? with
 |some fn=>(match fn.body with
  |some c=>(match tC P c,atL P fn.results.toList with
   |some b,some r=>fN fn.ntmps λn=>some ⟨n,b,r⟩
   |_,_=>none)
  |none=>none)
 |none=>none
def tF(P:Program)(f:Nat):Option AF:=match tG P f with
 |some F=>bif Wq P f F then some F else none
 |none=>none
def asy{P:Program}{f:Nat}{F:AF}(h:tG P f=some F)(hi:Wq P f F=true):tF P f=some F:=by unfold tF;rw[h];dsimp only;rw[hi];rfl
def aef{P:Program}{f:Nat}{F:AF}(h:tF P f=some F):Wq P f F=true:=by
 unfold tF at h;split at h
 .next F' _=>
  cases hi:Wq P f F' with
  |false=>rw[hi]at h;cases h
  |true=>rw[hi]at h;cases h;exact hi
 .cases h
end
def asz:ByteArray.mk (Array.mk [])=⟨#[]⟩:=rfl
def aym:ByteArray.mk (Array.mk [UInt8.ofBitVec (BitVec.ofFin ⟨1,jj⟩)])=bn 1:=rfl
end Go.Proofs.Xe
namespace Go.Proofs.Xe
open Go.RowKit Go.Proofs.Ins
def agv(cl cl':Nat->List V->St->Option (V×St)):Prop:=∀f args J r,cl f args J=some r->cl' f args J=some r
section
variable {cl cl' : Nat→List V→St→Option (V×St)}
theorem Y0(h:agv cl cl'){op:xq}{tm:Tr V}{J:St}{r:V×St}(hs:oK cl op tm J=some r):oK cl' op tm J=some r:=by
 unfold oK at hs⊢;split at hs
 .exact hs
 .exact hs
 .exact hs
 .next e=>
  split at hs
  .next f args e2=>exact h _ _ _ _ hs
  omega
def Jp(h:agv cl cl'){o:AO}{tm:Tr V}{J:St}{r:V×St}(hs:stepG cl o tm J=some r):stepG cl' o tm J=some r:=by grind[stepG,Y0]
theorem KU(h:agv cl cl'):∀{l:List AO}{tm:Tr V}{J:St}{r:Tr V×St},oP cl l tm J=some r->oP cl' l tm J=some r
 |[],_,_,_,hs=>hs
 |o::l,tm,J,r,hs=>by
  unfold oP at hs⊢;split at hs
  .next v J' e=>
   rw[Jp h e];dsimp only;split at hs
   .next tm' e2=>exact KU h hs
   .cases hs
  .cases hs
theorem Wu(h:agv cl cl'){pt:List (List Nat)}{dw bU:Tr V}:∀{d:Dr}{J:St}{res:List Rs}{pd:List jf}{r:Tr V×St},Bz cl pt dw bU d J res pd=some r->Bz cl' pt dw bU d J res pd=some r
 |.fin qs,J,res,pd,r,hs=>by grind[Bz]
 |.act qs x d,J,res,pd,r,hs=>by
  unfold Bz at hs⊢;split at hs
  .next σ1 res1 pd1 e=>
   cases hb:pd1.all (again σ1)with
   |false=>rw[hb]at hs;cases hs
   |true=>
    rw[hb]at hs
    simp only[bB]at hs⊢
    split at hs
    .next tm e2=>
     split at hs
     .next v σ2 e3=>
      rw[Jp h e3]
      exact Wu h hs
     .cases hs
    .cases hs
  .cases hs
end
def Wv(E:Env):∀n,(∀c tm J r,exec E n c tm J=some r->exec E (n+1) c tm J=some r)/\agv (iD E n) (iD E (n+1))
 |0=>⟨λc tm J r h=>by grind[exec],λf args J r h=>by grind[iD]⟩
 |n+1=>by
  obtain⟨h1,h2⟩:=Wv E n;refine⟨λc tm J r h=>?_,λf args J r h=>?_⟩
  .cases c with
   |skip=>grind[exec]
   |ops l=>
    simp only[exec,YH]at h⊢
    grind[Go.Proofs.Xe.KU]
   |drawn d pt ds=>
    simp only[exec,xDr,YH]at h⊢
    grind[Go.Proofs.Xe.Wu]
   |seq a b=>
    rw[exec]at h⊢
    cases hx:exec E n a tm J with
    |none=>rw[hx]at h;cases h
    |some q=>
     rw[hx]at h
     rw[h1 _ _ _ _ hx]
     obtain⟨e,tm',J'⟩:=q
     cases e with
     |normal=>exact h1 _ _ _ _ h
     |exit i=>exact h
     |ret=>exact h
   |cond x a b=>
    simp only[exec,YI]at h⊢
    split at h
    .exact h1 _ _ _ _ h
    .cases h
   |block i a=>
    rw[exec]at h⊢
    cases hx:exec E n a tm J with
    |none=>rw[hx]at h;cases h
    |some q=>grind
   |loop a=>
    rw[exec]at h⊢
    cases hx:exec E n a tm J with
    |none=>rw[hx]at h;cases h
    |some q=>
     rw[hx]at h
     rw[h1 _ _ _ _ hx]
     obtain⟨e,tm',J'⟩:=q
     cases e with
     |normal=>exact h1 _ _ _ _ h
     |exit i=>exact h
     |ret=>exact h
   |exit i=>grind[exec]
   |ret=>grind[exec]
   |bad=>grind[exec]
  .rw[iD]at h⊢;unfold Hz at h⊢;split at h
   .exact h
   .split at h
    .split at h
     .next tm e=>
      unfold agd at h⊢;grind
     .cases h
    .cases h
def F9{E:Env}{n m:Nat}(h:n<=m){c:AC}{tm:Tr V}{J:St}{r:AX×Tr V×St}(hx:exec E n c tm J=some r):exec E m c tm J=some r:=by
 induction h with
 |refl=>exact hx
 |step _ ih=>simp_all[Wv]
def oQ{E:Env}{n m:Nat}(h:n<=m):agv (iD E n) (iD E m):=by
 induction h with
 |refl=>exact λ_ _ _ _ h=>h
 |step _ ih=>exact λf args J r hx=>(Wv E _).2 _ _ _ _ (ih f args J r hx)
def aB(E:Env)(f:Nat)(args:List V)(J:St)(Q:V->St->Prop):Prop:=∃n v J',iD E n f args J=some (v,J')/\Q v J'
def bI(E:Env)(c:AC)(tm:Tr V)(J:St)(Q:AX->Tr V->St->Prop):Prop:=∃n e tm' J',exec E n c tm J=some (e,tm',J')/\Q e tm' J'
section
variable {E:Env} {tm:Tr V} {J:St} {Q Q' : AX→Tr V→St→Prop}
def aB.mono{f:Nat}{args:List V}{K K':V->St->Prop}(h:aB E f args J K)(hk:∀v J',K v J'->K' v J'):aB E f args J K':=by obtain⟨n,v,J',h1,h2⟩:=h;exact⟨n,v,J',h1,hk _ _ h2⟩
def bI.mono{c:AC}(h:bI E c tm J Q)(hk:∀e tm' J',Q e tm' J'->Q' e tm' J'):bI E c tm J Q':=by obtain⟨n,e,tm',J',h1,h2⟩:=h;exact⟨n,e,tm',J',h1,hk _ _ _ h2⟩
def Wx(E:Env)(b:AC)(Q:AX->Tr V->St->Prop):AX->Tr V->St->Prop
 |.normal,tm,J=>bI E b tm J Q
 |e,tm,J=>Q e tm J
def run_seq{a b:AC}(h:bI E a tm J (Wx E b Q)):bI E (.seq a b) tm J Q:=by
 obtain⟨n,e,tm',J',h1,h2⟩:=h;cases e with
 |normal=>
  obtain⟨m,e2,YV,σ2,h3,h4⟩:=h2
  refine⟨n+m+1,e2,YV,σ2,?_,h4⟩
  rw[exec,F9 jb h1]
  exact F9 jb h3
 |exit i=>exact⟨n+1,_,tm',J',by rw[exec,h1];rfl,h2⟩
 |ret=>exact⟨n+1,_,tm',J',by rw[exec,h1];rfl,h2⟩
def Y1(h:Q .normal tm J):bI E .skip tm J Q:=⟨1,_,_,_,by rw[exec],h⟩
def ajo{i:Nat}(h:Q (.exit i) tm J):bI E (.exit i) tm J Q:=⟨1,_,_,_,by rw[exec],h⟩
def aoy(h:Q .ret tm J):bI E .ret tm J Q:=⟨1,_,_,_,by rw[exec],h⟩
theorem ajp{x:O}{a b:AC}{t:Bool}(hx:x.ev tm=.c (.bool t))(h:bI E (bif t then a else b) tm J Q):bI E (.cond x a b) tm J Q:=by obtain⟨n,e,tm',J',h1,h2⟩:=h;exact⟨n+1,e,tm',J',by rw[exec,hx];exact h1,h2⟩
def ajq(i:Nat)(Q:AX->Tr V->St->Prop):AX->Tr V->St->Prop
 |.exit j,tm,J=>Q (bif Nat.beq j i then .normal else .exit j) tm J
 |e,tm,J=>Q e tm J
def Gf{i:Nat}{a:AC}(h:bI E a tm J (ajq i Q)):bI E (.block i a) tm J Q:=by
 obtain⟨n,e,tm',J',h1,h2⟩:=h;cases e with
 |normal=>exact⟨n+1,_,tm',J',by rw[exec,h1];rfl,h2⟩
 |exit j=>exact⟨n+1,_,tm',J',by rw[exec,h1];rfl,h2⟩
 |ret=>exact⟨n+1,_,tm',J',by rw[exec,h1];rfl,h2⟩
def ajr(I:Nat->Tr V->St->Prop)(m:Nat)(Q:AX->Tr V->St->Prop):AX->Tr V->St->Prop
 |.normal,tm,J=>∃m',m'<m/\I m' tm J
 |e,tm,J=>Q e tm J
def aG{a:AC}(I:Nat->Tr V->St->Prop)(m:Nat)(h0:I m tm J)(h:∀m tm J,I m tm J->bI E a tm J (ajr I m Q)):bI E (.loop a) tm J Q:=by
 induction m using Nat.strongRecOn generalizing tm J with
 |ind m ih=>
  obtain⟨n,e,tm',J',h1,h2⟩:=h m tm J h0
  cases e with
  |normal=>
   obtain⟨m',hlt,hI⟩:=h2
   obtain⟨k,e2,YV,σ2,h3,h4⟩:=ih m' hlt hI
   refine⟨n+k+1,e2,YV,σ2,?_,h4⟩
   rw[exec,F9 jb h1]
   exact F9 jb h3
  |exit i=>exact⟨n+1,_,tm',J',by rw[exec,h1];rfl,h2⟩
  |ret=>exact⟨n+1,_,tm',J',by rw[exec,h1];rfl,h2⟩
def G6(tm:Tr V)(d:Option Nat)(v:V):Tr V:=match d with|none=>tm|some d=>tm.set d (some v)
theorem Oc(tm:Tr V)(d:Option Nat)(v:V):KI tm d v=some (G6 tm d v):=by cases d<;>rfl
def wpOp(E:Env)(op:xq)(tm:Tr V)(J:St)(K:V->St->Prop):Prop:=
 match op with
 |.call g args=>match g.ev tm with
  |.fn f caps=>aB E f (args.map (·.ev tm)++caps.map .c) J K
  |_=>False
 |op=>match oK (λ_ _ _=>none) op tm J with|some (v,J')=>K v J'|none=>False
def wpG(E:Env)(o:AO)(tm:Tr V)(J:St)(K:V->St->Prop):Prop:=
 match gate o.g tm with
 |some true=>wpOp E o.op tm J K
 |some false=>K .tnil J
 |none=>False
def wpOps(E:Env):List AO->Tr V->St->(Tr V->St->Prop)->Prop
 |[],tm,J,Q=>Q tm J
 |o::r,tm,J,Q=>wpG E o tm J λv J'=>wpOps E r (G6 tm o.dst v) J' Q
theorem agw{op:xq}{K:V->St->Prop}(h:wpOp E op tm J K):∃n v J',oK (iD E n) op tm J=some (v,J')/\K v J':=by
 unfold wpOp at h;split at h
 .next g args=>
  split at h
  .next f caps e=>
   obtain⟨n,v,J',h1,h2⟩:=h;grind[Go.Proofs.Xe.oK,Go.Proofs.Xe.xq.kind,Go.Proofs.Xe.Pz]
  grind
 .split at h
  .next v J' e=>exact⟨0,v,J',Y0 (cl:=λ_ _ _=>none) (λ_ _ _ _ h=>by cases h) e,h⟩
  grind
def Y2{o:AO}{K:V->St->Prop}(h:wpG E o tm J K):∃n v J',stepG (iD E n) o tm J=some (v,J')/\K v J':=by
 unfold wpG at h;split at h
 .grind[Go.Proofs.Xe.agw,Go.Proofs.Xe.stepG]
 .next e=>exact⟨0,_,_,by grind[stepG],h⟩
 grind
def P9:∀{l:List AO}{tm:Tr V}{J:St}{Q:Tr V->St->Prop},wpOps E l tm J Q->∃n tm' J',oP (iD E n) l tm J=some (tm',J')/\Q tm' J'
 |[],tm,J,Q,h=>⟨0,tm,J,rfl,h⟩
 |o::l,tm,J,Q,h=>by obtain⟨n,v,σ1,h1,h2⟩:=Y2 (show wpG E o tm J _ from h);obtain⟨m,tm',J',h3,h4⟩:=P9 h2;refine⟨n+m,tm',J',?_,h4⟩;unfold oP;rw[Jp (oQ jb) h1];dsimp only;rw[Oc];exact KU (oQ jb) h3
def aoz{l:List AO}(h:wpOps E l tm J λtm' J'=>Q .normal tm' J'):bI E (.ops l) tm J Q:=by obtain⟨n,tm',J',h1,h2⟩:=P9 h;exact⟨n+1,.normal,tm',J',by rw[exec,h1];rfl,h2⟩
def Y3(E:Env)(pt:List (List Nat))(dw bU:Tr V):Dr->St->List Rs->List jf->(Tr V->St->Prop)->Prop
 |.fin qs,J,res,pd,Q=>(match zV dw bU qs J res pd with
  |some (J,res,pd)=>pd.all (again J)=true/\(match Nv bU res with|some tm=>Q tm J|none=>False)
  |none=>False)
 |.act qs x r,J,res,pd,Q=>(match zV dw bU qs J res pd with
  |some (J,res,pd)=>pd.all (again J)=true/\(match PE dw bU res x.us x.os with
   |some tm=>wpG E x.o tm J λv J'=>Y3 E pt dw bU r J' (⟨x.i,x.o.dst,v⟩::res) (pd.filter λp=>!((pt.getD x.i []).contains p.i)) Q
   |none=>False)
  |none=>False)
def Y4{pt:List (List Nat)}{dw bU:Tr V}:∀{d:Dr}{J:St}{res:List Rs}{pd:List jf}{Q:Tr V->St->Prop},Y3 E pt dw bU d J res pd Q->∃n tm' J',Bz (iD E n) pt dw bU d J res pd=some (tm',J')/\Q tm' J'
 |.fin qs,J,res,pd,Q,h=>by
  unfold Y3 at h;split at h
  .next σ1 res1 pd1 e=>
   obtain⟨h1,h2⟩:=h;split at h2
   .next tm e2=>exact⟨0,tm,σ1,by grind[Bz],h2⟩
   grind
  grind
 |.act qs x r,J,res,pd,Q,h=>by
  unfold Y3 at h;split at h
  .next σ1 res1 pd1 e=>
   obtain⟨h1,h2⟩:=h;split at h2
   .next tm e2=>
    obtain⟨n,v,σ2,h3,h4⟩:=Y2 h2;obtain⟨m,tm',J',h5,h6⟩:=Y4 h4;refine⟨n+m,tm',J',?_,h6⟩;unfold Bz;rw[e];dsimp only;rw[h1,e2];simp only[bB];rw[Jp (oQ jb) h3];exact Wu (oQ jb) h5
   .exact h2.elim
  .exact h.elim
def agx{d:Dr}{pt:List (List Nat)}{ds:List Nat}(bU:Tr V)(he:CQ tm ds=some bU)(h:Y3 E pt tm bU d J [] [] λtm' J'=>Q .normal tm' J'):bI E (.drawn d pt ds) tm J Q:=by obtain⟨n,tm',J',h1,h2⟩:=Y4 h;exact⟨n+1,.normal,tm',J',by rw[exec];unfold xDr;rw[he];dsimp only;rw[h1];rfl,h2⟩
def ajs:List V->Nat->Tr V->Tr V
 |[],_,t=>t
 |v::r,i,t=>ajs r (i+1) (t.set i (some v))
def ini(args:List V):Tr V:=ajs args 0 .leaf
def Qa:∀(args:List V) (i:Nat) (t:Tr V),Jh args i t=some (ajs args i t)
 |[],_,_=>rfl
 |v::r,i,t=>by unfold Jh;show Jh r (i+1) (t.set i (some v))=_;rw[Qa r (i+1)];rfl
theorem Y5:∀(args:List V) (i:Nat) (t:Tr V) (j:Nat),(ajs args i t).get j=if i<=j/\j<i+args.length then args[j-i]? else t.get j
 |[],i,t,j=>by rw[ae kc];rfl
 |v::r,i,t,j=>by
  show(ajs r (i+1) (t.set i (some v))).get j=_;rw[Y5 r (i+1)];simp only[bA];by_cases h:i+1<=j/\j<i+1+r.length
  .rw[ab h,ab jb,show j-i=(j-(i+1))+1 by omega,List.getElem?_cons_succ]
  .rw[ae h,Tr.wo];by_cases h2:j=i
   .subst h2;rw[ab rfl,ab jb,Nat.sub_self];rfl
   .rw[ae h2,ae jb]
theorem Gg(args:List V)(j:Nat):(ini args).get j=args[j]?:=by grind[ini,Y5,Tr.Eh]
theorem ab8(args:List V):Jh args 0 .leaf=some (ini args):=Qa args 0 .leaf
def ab9(res:List (Nat×Option (Nat×Bool)))(K:V->St->Prop):AX->Tr V->St->Prop
 |.exit _,_,_=>False
 |_,tm,J=>∃v,result tm J res=some v/\K v J
def aI{f:Nat}{args:List V}{F:AF}{K:V->St->Prop}(ho:E.Nw f args J=none)(hF:E.fns f=some F)(h:bI E F.body (ini args) J (ab9 F.res K)):aB E f args J K:=by
 obtain⟨n,e,tm',J',h1,h2⟩:=h;cases e with
 |exit i=>exact h2.elim
 |normal=>
  obtain⟨v,h3,h4⟩:=h2
  exact⟨n+1,v,J',by grind[iD,Hz,ab8,agd],h4⟩
 |ret=>
  obtain⟨v,h3,h4⟩:=h2
  exact⟨n+1,v,J',by grind[iD,Hz,ab8,agd],h4⟩
def Y6{f:Nat}{args:List V}{v:V}{J':St}{K:V->St->Prop}(ho:E.Nw f args J=some (v,J'))(h:K v J'):aB E f args J K:=
 ⟨1,v,J',by grind[iD,Hz],h⟩
end
end Go.Proofs.Xe
namespace Go.Proofs.Ins
def G7(p q:Rat):Rat:=if q=0 then 0 else p/q
def okR(q:Rat):Bool:=!decide (q=0)
def Jq(p q:Rat):Rat:=if nC p q<=0 then p else q
def wR(p q:Rat):Rat:=if 0<=nC p q then p else q
def amt(x:Nat):Rat:=if x%5=0 then(((x/5%23:Nat):Int):Rat)/(((1+x/115%6:Nat):Int):Rat)else if x%5=1 then(((10*(x/5%4):Nat):Int):Rat)else(((x/5%13:Nat):Int):Rat)
def aeg{x:Nat}(h:x%5=0):amt x=(((x/5%23:Nat):Int):Rat)/(((1+x/115%6:Nat):Int):Rat):=by unfold amt;rw[ab h]
def ajt{x:Nat}(h:x%5=1):amt x=(((10*(x/5%4):Nat):Int):Rat):=by unfold amt;rw[ae jb,ab h]
def Y7{x:Nat}(h:¬x%5=0)(h1:¬x%5=1):amt x=(((x/5%13:Nat):Int):Rat):=by unfold amt;rw[ae h,ae h1]
def Qb(i j:Int)(hj:0<j):fr (!(decide (i<0)==decide (j<0))) i.natAbs j.natAbs=(i:Rat)/(j:Rat):=by
 have hj0:(j:Rat)≠0:=by
  intro e;have:j=0:=by exact_mod_cast e
  omega
 rw[VR hj0];have e1:rn (i:Rat)=decide (i<0):=rfl;have e2:rn (j:Rat)=decide (j<0):=rfl;have e3:nm (i:Rat)=i.natAbs:=rfl;have e4:nm (j:Rat)=j.natAbs:=rfl;have e5:(i:Rat).den=1:=rfl;have e6:(j:Rat).den=1:=rfl;rw[e1,e2,e3,e4,e5,e6,eN,Nat.one_mul];rfl
def acd(n:Bool)(s d:ByteArray):Sm (s.size+d.size+1) (rq n s d):=axT jb jb jb
def aju(i:Int):fr (decide (i<0)) i.natAbs 1=(i:Rat):=by unfold fr;rw[Ec];exact(Rat.mkRat_self (i:Rat))
def adX(p q:Rat):Nat:=if rd p=rd q then nm p else nm p*q.den
def adY(p q:Rat):Nat:=if rd p=rd q then nm q else nm q*p.den
def adD(p q:Rat):Nat:=if rd p=rd q then p.den else p.den*q.den
def agy{p q:Rat}(h:rd p=rd q):p.den=q.den:=by rw[<-ad1 p,<-ad1 q,h]
def atN(p q:Rat):p+q=mkRat (wL (rn p) (adX p q)+wL (rn q) (adY p q)) (adD p q):=by
 unfold adX adY adD;by_cases h:rd p=rd q
 .rw[ab h,ab h,ab h];exact YB (agy h)
 .rw[ae h,ae h,ae h];exact VT p q
end Go.Proofs.Ins
end
