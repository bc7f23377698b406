import Derived.Test.YthkggcakedkboaaGreatDoorY8
import Derived.Test.YthkggcakedkboaaGreatDoorY2
set_option linter.all false
noncomputable section
namespace Go.Proofs.Xe
open Go Go.RowKit Go.Proofs.Ins
noncomputable section
def om{α β:Type}(f:α->Option β):List α->Option (List β)
 |[]=>some []
 |x::l=>match f x,om f l with|some y,some r=>some (y::r)|_,_=>none
def fL{α:Sort _}:List Nat->(List Nat->α)->α
 |[],k=>k []
 |x::l,k=>fN x λx=>fL l λl=>k (x::l)
def tB:Value->Option B
 |.int k n=>some (.int k n)
 |.bool b=>some (.bool b)
 |.string s=>bif Nat.beq s.size 0 then some (.str ⟨#[]⟩)else some (.str s)
 |.pointer none=>some .Qy
 |.slice none 0 0=>some .bg
 |_=>none
def tV:Value->Option V
 |.agg r=>(om tB r.toList).map .agg
 |.nilFunc=>some .KA
 |v=>(tB v).map .c
def tO:Operand->Option O
 |.tmp t=>some (.t t)
 |.const v=>(tV v).map .k
 |.func f=>some (.k (.fn f []))
 |_=>none
def tOO:Option Operand->Option (Option O)
 |none=>some none
 |some x=>(tO x).map some
def tZ(P:Program)(t:TypeId):Option (List B):=match P.info? t with
 |some i=>(match i.zero with|some z=>om tB z.cells.toList|none=>none)
 |none=>none
def tTy(P:Program)(t:TypeId):Option (Nat×Bool):=match P.info? t,P.underlying t with
 |some i,some d=>fN i.size λn=>some (n,aq0 d)
 |_,_=>none
def tEl(P:Program)(t:TypeId):Option TypeId:=match P.underlying t with|some (.slice e)=>some e|_=>none
def tSz(P:Program)(t:TypeId):Option Nat:=match P.info? t with|some i=>fN i.size some|none=>none
def tBy(P:Program)(t:TypeId):Option Nat:=match P.info? t with|some i=>fN i.bytes some|none=>none
def tPs(g:Nat->Option (Nat×Nat)):List (Nat×Operand)->Option (List (Nat×Nat×O)):=om λx=>match g x.1,tO x.2 with|some p,some y=>fN p.1 λa=>fN p.2 λb=>some (a,b,y)|_,_=>none
def eqK:BinOp->Option Bool
 |.eql=>some true
 |.neq=>some false
 |_=>none
def tEq(P:Program)(p:Bool)(t:TypeId)(x:O)(y:Operand)(z:O):Option uf:=match P.underlying t with
 |some .bool=>some (.eqb p x z)
 |some (.struct _)=>bif Un P t then some (.E5 p x z)else some (.DU p x z)
 |some (.slice _)=>some (.nil 0 p x)
 |some (.pointer _)=>some (.nil 1 p x)
 |some (.func ..)=>some (.nil 2 p x)
 |_=>none
def tOp(P:Program):Op->Option uf
 |.move x|.assign x=>do some (.mov (<-tO x))
 |.pick c a b=>do some (.pick (<-tO c) (<-tO a) (<-tO b))
 |.load t x=>do
  let g<-tTy P t
  some (.load g.1 g.2 (<-tO x))
 |.store t x u=>do some (.store (<-tSz P t) (<-tO x) (<-tO u))
 |.fieldAddr s x f=>do
  let fd<-CB P s f
  some (.Ar fd.offset (<-tO x))
 |.field s x f=>do
  let fd<-CB P s f
  let g<-tTy P fd.type
  some (.field fd.offset g.1 g.2 (<-tO x))
 |.indexAddr t x i=>match P.underlying t,i with
  |some (.slice el),i=>do some (.DT (<-tSz P el) (<-tO x) (<-tO i))
  |some (.array _ el),.const (.int _ (.ofNat j))=>do
   let n<-tSz P el
   let y<-tO x
   fN (j*n) λm=>some (.Ar m y)
  |_,_=>none
 |.extract x i=>do some (.ext i (<-tO x))
 |.binOp b t x y _=>do
  let x'<-tO x
  let y'<-tO y
  match eqK b with
  |some p=>(match tEq P p t x' y y' with|some r=>some r|none=>some (.bin b x' y'))
  |none=>some (.bin b x' y')
 |.unOp .not _ x=>do some (.not (<-tO x))
 |.unOp .neg t x=>match P.underlying t with
  |some (.int k)=>do some (.bin .sub (.k (.c (.int k (.ofNat 0)))) (<-tO x))
  |_=>none
 |.index _ x i=>do some (.abC (<-tO x) (<-tO i))
 |.convert _ d x=>match P.underlying d with
  |some (.int k)=>do some (.conv k (<-tO x))
  |some .string=>do some (.XH (<-tO x))
  |_=>none
 |.build t ps=>match P.underlying t with
  |some (.struct fs)=>do
   let pl<-placesOf P fs.toList
   some (.build (<-tZ P t) (<-tPs (λi=>pl[i]?) ps.toList))
  |_=>none
 |.makeMap t none=>bif Nat.beq t 103 then some .IJ else some .KC
 |.lookup _ m k false=>do some (.lookup (<-tO m) (<-tO k))
 |.mapUpdate _ m k v=>do some (.Qz (<-tO m) (<-tO k) (<-tO v))
 |.makeFunc (.func f) _ cs=>do some (.N7 f (<-om tO cs.toList))
 |.slice t x lo hi mx=>bif Uo P t then(match lo with|some i=>do some (.OM (<-tO x) (<-tO i))|none=>none)else do
  let e<-tEl P t
  some (.slice (<-tSz P e) (<-tO x) (<-tOO lo) (<-tOO hi) (<-tOO mx))
 |.nilCheck x=>do some (.N8 (<-tO x))
 |.alloc e=>do some (.alloc (<-tZ P e))
 |.box _ x=>do some (.box (<-tO x))
 |.makeSlice t l c=>do
  let e<-tEl P t
  some (.I4 (<-tBy P e) (<-tZ P e) (<-tO l) (<-tO c))
 |.buildSlice t len ps=>do
  let e<-tEl P t
  let n<-tSz P e
  some (.bsl n len (<-tZ P e) (<-tPs (λi=>some (i*n,n)) ps.toList))
 |.call c=>match c.callee,c.args.toList,c.argTypes.toList with
  |.value f,xs,_=>do some (.call (<-tO f) (<-om tO xs))
  |.builtin .len,[x],[t]=>do
   let y<-tO x
   bif Uo P t then some (.slen y)else some (.len y)
  |.builtin .min,[x,y],_=>do some (.min2 (<-tO x) (<-tO y))
  |.builtin .append,[s,x],[t,_]=>do
   let e<-tEl P t
   some (.app e (<-tSz P e) (<-tBy P e) (<-tO s) (<-tO x))
  |_,_,_=>none
 |_=>none
def tAO(P:Program)(ops:Array Oper)(o:Oper):Option AO:=match tOp P o.op with
 |some a=>(match o.guard with
  |none=>some ⟨o.dst,none,a⟩
  |some (j,b)=>(match(ops[j]?).bind (·.dst)with|some d=>some ⟨o.dst,some (d,b),a⟩|none=>none))
 |none=>none
def uni:List Nat->List Nat->List Nat
 |[],l=>l
 |x::r,l=>bif l.contains x then uni r l else uni r (x::l)
def ptE(acc:List (List Nat)):List Edge->List Nat->List Nat
 |[],l=>l
 |e::r,l=>bif Region.binds .any e then fL (uni (e.on::acc.getD e.on []) l) (ptE acc r)else ptE acc r l
def ptL{α:Sort _}:List Oper->List (List Nat)->(List (List Nat)->α)->α
 |[],acc,k=>k acc
 |o::r,acc,k=>fL (ptE acc o.after.toList []) λl=>ptL r (acc++[l]) k
def anv:List AO->Nat->List Nat
 |[],_=>[]
 |a::l,i=>bif AQ a.op.kind then anv l (i+1)else i::anv l (i+1)
def amg:List AO->Nat->Nat->Option Nat
 |[],_,_=>none
 |a::l,i,t=>bif (match a.dst with|some d=>Nat.beq d t|none=>false)then some i else amg l (i+1) t
def ZX:List Operand->List Nat
 |[]=>[]
 |.tmp t::l=>t::ZX l
 |_::l=>ZX l
def amh(aos:List AO)(w:List Nat):List Nat->List Nat×List Nat
 |[]=>([],[])
 |t::l=>match amg aos 0 t,amh aos w l with
  |some p,(us,os)=>bif w.contains p then(uni [p] us,os)else(us,uni [t] os)
  |none,r=>r
def XY(w:List Nat):List Nat->Nat->Nat->Nat
 |[],_,b=>b
 |x::l,k,b=>bif w.contains x then XY w l (k+1) k else XY w l (k+1) b
def ari(pt:List (List Nat))(acts:List Nat)(aos:List AO):List Oper->List AO->Nat->List (Nat×DO)
 |o::r,a::l,i=>
  let w:=pt.getD i []
  match amh aos w (match a.g with|some (t,_)=>t::ZX o.op.operands.toList|none=>ZX o.op.operands.toList)with
  |(us,os)=>fL us λus=>fL os λos=>fN (XY w acts 1 0) λs=>fN i λi=>(s,⟨i,us,os,a⟩)::ari pt acts aos r l (i+1)
 |_,_,_=>[]
def qOf(s:Nat):List (Nat×DO)->(List DO->Option Dr)->Option Dr
 |[],k=>k []
 |(t,d)::l,k=>bif Nat.beq t s&&AQ d.o.op.kind then qOf s l λr=>k (d::r)else qOf s l k
def ami(x:Nat):List (Nat×DO)->Option DO
 |[]=>none
 |(_,d)::l=>bif Nat.beq d.i x then some d else ami x l
def tDr(Ho:List (Nat×DO)):List Nat->Nat->Option Dr
 |[],s=>qOf s Ho λq=>some (.fin q)
 |x::r,s=>match ami x Ho,tDr Ho r (s+1)with
  |some d,some D=>qOf s Ho λq=>some (.act q d D)
  |_,_=>none
def dsL:List AO->List Nat
 |[]=>[]
 |a::l=>match a.dst with|some d=>d::dsL l|none=>dsL l
def auy(P:Program)(ops:Array Oper):Bool->Option AC
 |false=>(om (tAO P ops) ops.toList).map .ops
 |true=>match om (tAO P ops) ops.toList with
  |some aos=>ptL ops.toList [] λpt=>fL (anv aos 0) λacts=>(match tDr (ari pt acts aos ops.toList aos 0) acts 0 with
   |some D=>fL (dsL aos) λds=>some (.drawn D pt ds)
   |none=>none)
  |none=>none
def tC(P:Program):Code->Option AC
 |.skip|.label _=>some .skip
 |.region _ ops dr=>auy P ops dr
 |.seq a b=>match tC P a,tC P b with|some x,some y=>some (.seq x y)|_,_=>none
 |.cond c a b=>match tO c,tC P a,tC P b with|some z,some x,some y=>some (.cond z x y)|_,_,_=>none
 |.block i a=>match tC P a with|some x=>some (.block i x)|none=>none
 |.loop a=>match tC P a with|some x=>some (.loop x)|none=>none
 |.exit i=>some (.exit i)
 |.ret=>some .ret
 |_=>none
def anw(P:Program):List ResultVar->Option (List (Nat×Option (Nat×Bool)))
 |[]=>some []
 |.tmp t::r=>match anw P r with|some l=>some ((t,none)::l)|none=>none
 |.cell t ty::r=>match tTy P ty,anw P r with|some g,some l=>some ((t,some g)::l)|_,_=>none
def tG(P:Program)(f:Nat):Option AF:=match P.funcs[f]? with
 |some fn=>(match fn.body with
  |some c=>(match tC P c,anw P fn.results.toList with
   |some b,some r=>fN fn.ntmps λn=>some ⟨n,b,r⟩
   |_,_=>none)
  |none=>none)
 |none=>none
def tF(P:Program)(f:Nat):Option AF:=match tG P f with
 |some F=>bif UD P f F then some F else none
 |none=>none
def amj{P:Program}{f:Nat}{F:AF}(h:tG P f=some F)(hi:UD P f F=true):tF P f=some F:=by unfold tF;rw[h];dsimp only;rw[hi];rfl
def aeA{P:Program}{f:Nat}{F:AF}(h:tF P f=some F):UD P f F=true:=by
 unfold tF at h;split at h
 .next F' _=>
  cases hi:UD P f F' with
  |false=>rw[hi]at h;cases h
  |true=>rw[hi]at h;cases h;exact hi
 .cases h
end
def amk:ByteArray.mk (Array.mk [])=⟨#[]⟩:=rfl
def arj:ByteArray.mk (Array.mk [UInt8.ofBitVec (BitVec.ofFin ⟨1,jj⟩)])=bn 1:=rfl
end Go.Proofs.Xe
namespace Go.Proofs.Xe
open Go.RowKit Go.Proofs.Ins
def abS(cl cl':Nat->List V->St->Option (V×St)):Prop:=∀f args σ r,cl f args σ=some r->cl' f args σ=some r
section
variable {cl cl' : Nat→List V→St→Option (V×St)}
theorem UF(h:abS cl cl'){op:uf}{tm:Tr V}{σ:St}{r:V×St}(hs:nP cl op tm σ=some r):nP cl' op tm σ=some r:=by
 unfold nP at hs⊢;split at hs
 .exact hs
 .exact hs
 .exact hs
 .next e=>
  split at hs
  .next f args e2=>exact h _ _ _ _ hs
  omega
def Fz(h:abS cl cl'){o:AO}{tm:Tr V}{σ:St}{r:V×St}(hs:stepG cl o tm σ=some r):stepG cl' o tm σ=some r:=by grind[stepG,UF]
theorem Hq(h:abS cl cl'):∀{l:List AO}{tm:Tr V}{σ:St}{r:Tr V×St},qL cl l tm σ=some r->qL cl' l tm σ=some r
 |[],_,_,_,hs=>hs
 |o::l,tm,σ,r,hs=>by
  unfold qL at hs⊢;split at hs
  .next v σ' e=>
   rw[Fz h e];dsimp only;split at hs
   .next tm' e2=>exact Hq h hs
   .cases hs
  .cases hs
theorem QL(h:abS cl cl'){pt:List (List Nat)}{cO bH:Tr V}:∀{d:Dr}{σ:St}{res:List Rs}{pd:List iF}{r:Tr V×St},AA cl pt cO bH d σ res pd=some r->AA cl' pt cO bH d σ res pd=some r
 |.fin qs,σ,res,pd,r,hs=>by grind[AA]
 |.act qs x d,σ,res,pd,r,hs=>by
  unfold AA at hs⊢;split at hs
  .next σ1 res1 pd1 e=>
   cases hb:pd1.all (again σ1)with
   |false=>rw[hb]at hs;cases hs
   |true=>
    rw[hb]at hs
    simp only[cg]at hs⊢
    split at hs
    .next tm e2=>
     split at hs
     .next v σ2 e3=>
      rw[Fz h e3]
      exact QL h hs
     .cases hs
    .cases hs
  .cases hs
end
def QM(E:Env):∀n,(∀c tm σ r,exec E n c tm σ=some r->exec E (n+1) c tm σ=some r)/\abS (iJ E n) (iJ E (n+1))
 |0=>⟨λc tm σ r h=>by grind[exec],λf args σ r h=>by grind[iJ]⟩
 |n+1=>by
  obtain⟨h1,h2⟩:=QM E n;refine⟨λc tm σ r h=>?_,λf args σ r h=>?_⟩
  .cases c with
   |skip=>grind[exec]
   |ops l=>
    simp only[exec,Uk]at h⊢
    grind[Go.Proofs.Xe.Hq]
   |drawn d pt ds=>
    simp only[exec,xDr,Uk]at h⊢
    grind[Go.Proofs.Xe.QL]
   |seq a b=>
    rw[exec]at h⊢
    cases hx:exec E n a tm σ with
    |none=>rw[hx]at h;cases h
    |some q=>
     rw[hx]at h
     rw[h1 _ _ _ _ hx]
     obtain⟨e,tm',σ'⟩:=q
     cases e with
     |normal=>exact h1 _ _ _ _ h
     |exit i=>exact h
     |ret=>exact h
   |cond x a b=>
    simp only[exec,ZR]at h⊢
    split at h
    .exact h1 _ _ _ _ h
    .cases h
   |block i a=>
    rw[exec]at h⊢
    cases hx:exec E n a tm σ with
    |none=>rw[hx]at h;cases h
    |some q=>grind
   |loop a=>
    rw[exec]at h⊢
    cases hx:exec E n a tm σ with
    |none=>rw[hx]at h;cases h
    |some q=>
     rw[hx]at h
     rw[h1 _ _ _ _ hx]
     obtain⟨e,tm',σ'⟩:=q
     cases e with
     |normal=>exact h1 _ _ _ _ h
     |exit i=>exact h
     |ret=>exact h
   |exit i=>grind[exec]
   |ret=>grind[exec]
   |bad=>grind[exec]
  .rw[iJ]at h⊢;unfold Fa at h⊢;split at h
   .exact h
   .split at h
    .split at h
     .next tm e=>
      unfold abE at h⊢;grind
     .cases h
    .cases h
def CO{E:Env}{n m:Nat}(h:n<=m){c:AC}{tm:Tr V}{σ:St}{r:AX×Tr V×St}(hx:exec E n c tm σ=some r):exec E m c tm σ=some r:=by
 induction h with
 |refl=>exact hx
 |step _ ih=>simp_all[QM]
def mF{E:Env}{n m:Nat}(h:n<=m):abS (iJ E n) (iJ E m):=by
 induction h with
 |refl=>exact λ_ _ _ _ h=>h
 |step _ ih=>exact λf args σ r hx=>(QM E _).2 _ _ _ _ (ih f args σ r hx)
def aC(E:Env)(f:Nat)(args:List V)(σ:St)(Q:V->St->Prop):Prop:=∃n v σ',iJ E n f args σ=some (v,σ')/\Q v σ'
def bK(E:Env)(c:AC)(tm:Tr V)(σ:St)(Q:AX->Tr V->St->Prop):Prop:=∃n e tm' σ',exec E n c tm σ=some (e,tm',σ')/\Q e tm' σ'
section
variable {E:Env} {tm:Tr V} {σ:St} {Q Q' : AX→Tr V→St→Prop}
def aC.mono{f:Nat}{args:List V}{K K':V->St->Prop}(h:aC E f args σ K)(hk:∀v σ',K v σ'->K' v σ'):aC E f args σ K':=by obtain⟨n,v,σ',h1,h2⟩:=h;exact⟨n,v,σ',h1,hk _ _ h2⟩
def bK.mono{c:AC}(h:bK E c tm σ Q)(hk:∀e tm' σ',Q e tm' σ'->Q' e tm' σ'):bK E c tm σ Q':=by obtain⟨n,e,tm',σ',h1,h2⟩:=h;exact⟨n,e,tm',σ',h1,hk _ _ _ h2⟩
def QN(E:Env)(b:AC)(Q:AX->Tr V->St->Prop):AX->Tr V->St->Prop
 |.normal,tm,σ=>bK E b tm σ Q
 |e,tm,σ=>Q e tm σ
def run_seq{a b:AC}(h:bK E a tm σ (QN E b Q)):bK E (.seq a b) tm σ Q:=by
 obtain⟨n,e,tm',σ',h1,h2⟩:=h;cases e with
 |normal=>
  obtain⟨m,e2,Uz,σ2,h3,h4⟩:=h2
  refine⟨n+m+1,e2,Uz,σ2,?_,h4⟩
  rw[exec,CO jb h1]
  exact CO jb h3
 |exit i=>exact⟨n+1,_,tm',σ',by rw[exec,h1];rfl,h2⟩
 |ret=>exact⟨n+1,_,tm',σ',by rw[exec,h1];rfl,h2⟩
def UG(h:Q .normal tm σ):bK E .skip tm σ Q:=⟨1,_,_,_,by rw[exec],h⟩
def aeB{i:Nat}(h:Q (.exit i) tm σ):bK E (.exit i) tm σ Q:=⟨1,_,_,_,by rw[exec],h⟩
def aja(h:Q .ret tm σ):bK E .ret tm σ Q:=⟨1,_,_,_,by rw[exec],h⟩
theorem aeC{x:O}{a b:AC}{t:Bool}(hx:x.ev tm=.c (.bool t))(h:bK E (bif t then a else b) tm σ Q):bK E (.cond x a b) tm σ Q:=by obtain⟨n,e,tm',σ',h1,h2⟩:=h;exact⟨n+1,e,tm',σ',by rw[exec,hx];exact h1,h2⟩
def aeD(i:Nat)(Q:AX->Tr V->St->Prop):AX->Tr V->St->Prop
 |.exit j,tm,σ=>Q (bif Nat.beq j i then .normal else .exit j) tm σ
 |e,tm,σ=>Q e tm σ
def CP{i:Nat}{a:AC}(h:bK E a tm σ (aeD i Q)):bK E (.block i a) tm σ Q:=by
 obtain⟨n,e,tm',σ',h1,h2⟩:=h;cases e with
 |normal=>exact⟨n+1,_,tm',σ',by rw[exec,h1];rfl,h2⟩
 |exit j=>exact⟨n+1,_,tm',σ',by rw[exec,h1];rfl,h2⟩
 |ret=>exact⟨n+1,_,tm',σ',by rw[exec,h1];rfl,h2⟩
def ajb(I:Nat->Tr V->St->Prop)(m:Nat)(Q:AX->Tr V->St->Prop):AX->Tr V->St->Prop
 |.normal,tm,σ=>∃m',m'<m/\I m' tm σ
 |e,tm,σ=>Q e tm σ
def aF{a:AC}(I:Nat->Tr V->St->Prop)(m:Nat)(h0:I m tm σ)(h:∀m tm σ,I m tm σ->bK E a tm σ (ajb I m Q)):bK E (.loop a) tm σ Q:=by
 induction m using Nat.strongRecOn generalizing tm σ with
 |ind m ih=>
  obtain⟨n,e,tm',σ',h1,h2⟩:=h m tm σ h0
  cases e with
  |normal=>
   obtain⟨m',hlt,hI⟩:=h2
   obtain⟨k,e2,Uz,σ2,h3,h4⟩:=ih m' hlt hI
   refine⟨n+k+1,e2,Uz,σ2,?_,h4⟩
   rw[exec,CO jb h1]
   exact CO jb h3
  |exit i=>exact⟨n+1,_,tm',σ',by rw[exec,h1];rfl,h2⟩
  |ret=>exact⟨n+1,_,tm',σ',by rw[exec,h1];rfl,h2⟩
def Du(tm:Tr V)(d:Option Nat)(v:V):Tr V:=match d with|none=>tm|some d=>tm.set d (some v)
theorem Js(tm:Tr V)(d:Option Nat)(v:V):GX tm d v=some (Du tm d v):=by cases d<;>rfl
def wpOp(E:Env)(op:uf)(tm:Tr V)(σ:St)(K:V->St->Prop):Prop:=
 match op with
 |.call g args=>match g.ev tm with
  |.fn f caps=>aC E f (args.map (·.ev tm)++caps.map .c) σ K
  |_=>False
 |op=>match nP (λ_ _ _=>none) op tm σ with|some (v,σ')=>K v σ'|none=>False
def wpG(E:Env)(o:AO)(tm:Tr V)(σ:St)(K:V->St->Prop):Prop:=
 match gate o.g tm with
 |some true=>wpOp E o.op tm σ K
 |some false=>K .tnil σ
 |none=>False
def wpOps(E:Env):List AO->Tr V->St->(Tr V->St->Prop)->Prop
 |[],tm,σ,Q=>Q tm σ
 |o::r,tm,σ,Q=>wpG E o tm σ λv σ'=>wpOps E r (Du tm o.dst v) σ' Q
theorem abT{op:uf}{K:V->St->Prop}(h:wpOp E op tm σ K):∃n v σ',nP (iJ E n) op tm σ=some (v,σ')/\K v σ':=by
 unfold wpOp at h;split at h
 .next g args=>
  split at h
  .next f caps e=>
   obtain⟨n,v,σ',h1,h2⟩:=h;grind[Go.Proofs.Xe.nP,Go.Proofs.Xe.uf.kind,Go.Proofs.Xe.ZP]
  grind
 .split at h
  .next v σ' e=>exact⟨0,v,σ',UF (cl:=λ_ _ _=>none) (λ_ _ _ _ h=>by cases h) e,h⟩
  grind
def UH{o:AO}{K:V->St->Prop}(h:wpG E o tm σ K):∃n v σ',stepG (iJ E n) o tm σ=some (v,σ')/\K v σ':=by
 unfold wpG at h;split at h
 .grind[Go.Proofs.Xe.abT,Go.Proofs.Xe.stepG]
 .next e=>exact⟨0,_,_,by grind[stepG],h⟩
 grind
def Lh:∀{l:List AO}{tm:Tr V}{σ:St}{Q:Tr V->St->Prop},wpOps E l tm σ Q->∃n tm' σ',qL (iJ E n) l tm σ=some (tm',σ')/\Q tm' σ'
 |[],tm,σ,Q,h=>⟨0,tm,σ,rfl,h⟩
 |o::l,tm,σ,Q,h=>by obtain⟨n,v,σ1,h1,h2⟩:=UH (show wpG E o tm σ _ from h);obtain⟨m,tm',σ',h3,h4⟩:=Lh h2;refine⟨n+m,tm',σ',?_,h4⟩;unfold qL;rw[Fz (mF jb) h1];dsimp only;rw[Js];exact Hq (mF jb) h3
def ajc{l:List AO}(h:wpOps E l tm σ λtm' σ'=>Q .normal tm' σ'):bK E (.ops l) tm σ Q:=by obtain⟨n,tm',σ',h1,h2⟩:=Lh h;exact⟨n+1,.normal,tm',σ',by rw[exec,h1];rfl,h2⟩
def UJ(E:Env)(pt:List (List Nat))(cO bH:Tr V):Dr->St->List Rs->List iF->(Tr V->St->Prop)->Prop
 |.fin qs,σ,res,pd,Q=>(match wI cO bH qs σ res pd with
  |some (σ,res,pd)=>pd.all (again σ)=true/\(match I5 bH res with|some tm=>Q tm σ|none=>False)
  |none=>False)
 |.act qs x r,σ,res,pd,Q=>(match wI cO bH qs σ res pd with
  |some (σ,res,pd)=>pd.all (again σ)=true/\(match KF cO bH res x.us x.os with
   |some tm=>wpG E x.o tm σ λv σ'=>UJ E pt cO bH r σ' (⟨x.i,x.o.dst,v⟩::res) (pd.filter λp=>!((pt.getD x.i []).contains p.i)) Q
   |none=>False)
  |none=>False)
def UK{pt:List (List Nat)}{cO bH:Tr V}:∀{d:Dr}{σ:St}{res:List Rs}{pd:List iF}{Q:Tr V->St->Prop},UJ E pt cO bH d σ res pd Q->∃n tm' σ',AA (iJ E n) pt cO bH d σ res pd=some (tm',σ')/\Q tm' σ'
 |.fin qs,σ,res,pd,Q,h=>by
  unfold UJ at h;split at h
  .next σ1 res1 pd1 e=>
   obtain⟨h1,h2⟩:=h;split at h2
   .next tm e2=>exact⟨0,tm,σ1,by grind[AA],h2⟩
   grind
  grind
 |.act qs x r,σ,res,pd,Q,h=>by
  unfold UJ at h;split at h
  .next σ1 res1 pd1 e=>
   obtain⟨h1,h2⟩:=h;split at h2
   .next tm e2=>
    obtain⟨n,v,σ2,h3,h4⟩:=UH h2;obtain⟨m,tm',σ',h5,h6⟩:=UK h4;refine⟨n+m,tm',σ',?_,h6⟩;unfold AA;rw[e];dsimp only;rw[h1,e2];simp only[cg];rw[Fz (mF jb) h3];exact QL (mF jb) h5
   .exact h2.elim
  .exact h.elim
def abU{d:Dr}{pt:List (List Nat)}{ds:List Nat}(bH:Tr V)(he:yT tm ds=some bH)(h:UJ E pt tm bH d σ [] [] λtm' σ'=>Q .normal tm' σ'):bK E (.drawn d pt ds) tm σ Q:=by obtain⟨n,tm',σ',h1,h2⟩:=UK h;exact⟨n+1,.normal,tm',σ',by rw[exec];unfold xDr;rw[he];dsimp only;rw[h1];rfl,h2⟩
def aeE:List V->Nat->Tr V->Tr V
 |[],_,t=>t
 |v::r,i,t=>aeE r (i+1) (t.set i (some v))
def ini(args:List V):Tr V:=aeE args 0 .leaf
def Lj:∀(args:List V) (i:Nat) (t:Tr V),E8 args i t=some (aeE args i t)
 |[],_,_=>rfl
 |v::r,i,t=>by unfold E8;show E8 r (i+1) (t.set i (some v))=_;rw[Lj r (i+1)];rfl
theorem UL:∀(args:List V) (i:Nat) (t:Tr V) (j:Nat),(aeE args i t).get j=if i<=j/\j<i+args.length then args[j-i]? else t.get j
 |[],i,t,j=>by rw[ab kc];rfl
 |v::r,i,t,j=>by
  show(aeE r (i+1) (t.set i (some v))).get j=_;rw[UL r (i+1)];simp only[bL];by_cases h:i+1<=j/\j<i+1+r.length
  .rw[ae h,ae jb,show j-i=(j-(i+1))+1 by omega,List.getElem?_cons_succ]
  .rw[ab h,Tr.rJ];by_cases h2:j=i
   .subst h2;rw[ae rfl,ae jb,Nat.sub_self];rfl
   .rw[ab h2,ab jb]
theorem FB(args:List V)(j:Nat):(ini args).get j=args[j]?:=by grind[ini,UL,Tr.Kz]
theorem XZ(args:List V):E8 args 0 .leaf=some (ini args):=Lj args 0 .leaf
def X0(res:List (Nat×Option (Nat×Bool)))(K:V->St->Prop):AX->Tr V->St->Prop
 |.exit _,_,_=>False
 |_,tm,σ=>∃v,result tm σ res=some v/\K v σ
def aN{f:Nat}{args:List V}{F:AF}{K:V->St->Prop}(ho:E.Uj f args σ=none)(hF:E.fns f=some F)(h:bK E F.body (ini args) σ (X0 F.res K)):aC E f args σ K:=by
 obtain⟨n,e,tm',σ',h1,h2⟩:=h;cases e with
 |exit i=>exact h2.elim
 |normal=>
  obtain⟨v,h3,h4⟩:=h2
  exact⟨n+1,v,σ',by grind[iJ,Fa,XZ,abE],h4⟩
 |ret=>
  obtain⟨v,h3,h4⟩:=h2
  exact⟨n+1,v,σ',by grind[iJ,Fa,XZ,abE],h4⟩
def UM{f:Nat}{args:List V}{v:V}{σ':St}{K:V->St->Prop}(ho:E.Uj f args σ=some (v,σ'))(h:K v σ'):aC E f args σ K:=
 ⟨1,v,σ',by grind[iJ,Fa],h⟩
end
end Go.Proofs.Xe
namespace Go.Proofs.Ins
def FC(p q:Rat):Rat:=if q=0 then 0 else p/q
def okR(q:Rat):Bool:=!decide (q=0)
def Hr(p q:Rat):Rat:=if oJ p q<=0 then p else q
def FD(p q:Rat):Rat:=if 0<=oJ p q then p else q
def amt(x:Nat):Rat:=if x%5=0 then(((x/5%23:Nat):Int):Rat)/(((1+x/115%6:Nat):Int):Rat)else if x%5=1 then(((10*(x/5%4):Nat):Int):Rat)else(((x/5%13:Nat):Int):Rat)
def ZY{x:Nat}(h:x%5=0):amt x=(((x/5%23:Nat):Int):Rat)/(((1+x/115%6:Nat):Int):Rat):=by unfold amt;rw[ae h]
def aeF{x:Nat}(h:x%5=1):amt x=(((10*(x/5%4):Nat):Int):Rat):=by unfold amt;rw[ab jb,ae h]
def aeG{x:Nat}(h:¬x%5=0)(h1:¬x%5=1):amt x=(((x/5%13:Nat):Int):Rat):=by unfold amt;rw[ab h,ab h1]
def Ll(i j:Int)(hj:0<j):fr (!(decide (i<0)==decide (j<0))) i.natAbs j.natAbs=(i:Rat)/(j:Rat):=by
 have hj0:(j:Rat)≠0:=by
  intro e;have:j=0:=by exact_mod_cast e
  omega
 rw[Xw hj0];have e1:rn (i:Rat)=decide (i<0):=rfl;have e2:rn (j:Rat)=decide (j<0):=rfl;have e3:nm (i:Rat)=i.natAbs:=rfl;have e4:nm (j:Rat)=j.natAbs:=rfl;have e5:(i:Rat).den=1:=rfl;have e6:(j:Rat).den=1:=rfl;rw[e1,e2,e3,e4,e5,e6,ga,Nat.one_mul];rfl
def anz(n:Bool)(s d:ByteArray):Sm (s.size+d.size+1) (rq n s d):=aqS jb jb jb
def anA(i:Int):fr (decide (i<0)) i.natAbs 1=(i:Rat):=by unfold fr;rw[Ak];exact(Rat.mkRat_self (i:Rat))
def adX(p q:Rat):Nat:=if rd p=rd q then nm p else nm p*q.den
def adY(p q:Rat):Nat:=if rd p=rd q then nm q else nm q*p.den
def adD(p q:Rat):Nat:=if rd p=rd q then p.den else p.den*q.den
def abV{p q:Rat}(h:rd p=rd q):p.den=q.den:=by rw[<-ZH p,<-ZH q,h]
def anB(p q:Rat):p+q=mkRat (uy (rn p) (adX p q)+uy (rn q) (adY p q)) (adD p q):=by
 unfold adX adY adD;by_cases h:rd p=rd q
 .rw[ae h,ae h,ae h];exact Uf (abV h)
 .rw[ab h,ab h,ab h];exact Xx p q
end Go.Proofs.Ins
set_option maxRecDepth 100000
namespace Go.Proofs.Xe
open Go.RowKit Go.Proofs.Ins
def szK:Nat:=60000000
def Sz(q:Rat):Prop:=Sm szK q
def CQ(a:Nat):Prop:=(bn a).size<=60000000
def rV(q:Rat):V:=.agg [.bool (rn q),.str (rs q),.str (rd q)]
def rbV(q:Rat)(b:Bool):V:=.aV (rV q) (.aV (.c (.bool b)) .tnil)
def iV(i:Int):V:=.c (.int .i64 i)
def Sz.sizes{p:Rat}(h:Sz p):(rs p).size<=60000000/\(rd p).size<=60000000:=⟨Sm.rs h,Sm.rd h⟩
def Xn{a b:Nat}(h:bn a=bn b):a=b:=by rw[<-gJ a,<-gJ b,h]
abbrev kb(b:Bool):O:=.k (.c (.bool b))
abbrev d(n:Nat):Option Nat:=some n
abbrev s0:B:=.str ⟨#[]⟩
abbrev i0:B:=.int .i64 (.ofNat 0)
def NS(c:Bool)(R:Rat->Rat->V):List V->Option V
 |[.agg [.bool n,.str s,.str d],.agg [.bool m,.str t,.str e]]=>if(s.size+d.size<=130000000/\t.size+e.size<=130000000)/\(c=true->NW n s d/\NW m t e)then some (R (rq n s d) (rq m t e))else none
 |_=>none
def Xf(c:Bool)(R:Rat->V):List V->Option V
 |[.agg [.bool n,.str s,.str d]]=>if s.size+d.size<=130000000/\(c=true->NW n s d)then some (R (rq n s d))else none
 |_=>none
def kVd:List V->Option V
 |[.agg [.bool n,.str s,.str d]]=>if s.size+d.size<=130000000 then some (.c (.bool (decide (NW n s d))))else none
 |_=>none
def kN1(R:Nat->V):List V->Option V
 |[.c (.str s)]=>if s.size<=1073741824 then some (R (nv s))else none
 |_=>none
def Xg(R:Nat->Nat->Option V):List V->Option V
 |[.c (.str s),.c (.str t)]=>if s.size<=1073741824/\t.size<=1073741824 then R (nv s) (nv t)else none
 |_=>none
def kB3(R:Bool->Nat->Nat->Option V):List V->Option V
 |[.c (.bool n),.c (.str s),.c (.str t)]=>if s.size<=1073741824/\t.size<=1073741824 then R n (nv s) (nv t)else none
 |_=>none
def kI(k:IntKind)(l h:Int)(R:Int->V):List V->Option V
 |[.c (.int j i)]=>if j=k/\l<=i/\i<=h then some (R i)else none
 |_=>none
def kQ(R:Int->Int->V):List V->Option V
 |[.c (.int j i),.c (.int k m)]=>if(j=.i64/\0<=i/\i<23)/\k=.i64/\0<m/\m<7 then some (R i m)else none
 |_=>none
def AZ(c:Bool)(R:Rat->Rat->V){p q:Rat}(hp:Sz p)(hq:Sz q):NS c R [rV p,rV q]=some (R p q):=by unfold NS rV;have:=hp.sizes;have:=hq.sizes;simp only;rw[ae ⟨jb,λ_=>⟨Am p,Am q⟩⟩,DL,DL]
def X3(c:Bool)(R:Rat->V){p:Rat}(hp:Sz p):Xf c R [rV p]=some (R p):=by unfold Xf rV;have:=hp.sizes;simp only;rw[ae ⟨jb,λ_=>Am p⟩,DL]
def anC{p:Rat}(hp:Sz p):kVd [rV p]=some (.c (.bool true)):=by unfold kVd rV;have:=hp.sizes;simp only;rw[ae jb,bj (Am p)]
def Lm(R:Nat->Nat->Option V){a b:Nat}{v:V}(ha:CQ a)(hb:CQ b)(h:R a b=some v):Xg R [.c (.str (bn a)),.c (.str (bn b))]=some v:=by unfold Xg CQ at*;simp only;rw[ae jb,gJ,gJ,h]
def anD(R:Bool->Nat->Nat->Option V){n:Bool}{a b:Nat}{v:V}(ha:CQ a)(hb:CQ b)(h:R n a b=some v):kB3 R [.c (.bool n),.c (.str (bn a)),.c (.str (bn b))]=some v:=by unfold kB3 CQ at*;simp only;rw[ae jb,gJ,gJ,h]
noncomputable section
def jg(f:Nat):List V->Option V:=
 bif Nat.beq f 76 then(kN1 λa=>.c (.str (bn a)))else
 bif Nat.beq f 39 then(Xg λa b=>some (iV (oQ a b)))else
 bif Nat.beq f 81 then(Xg λa b=>some (.c (.str (bn (a+b)))))else
 bif Nat.beq f 40 then(Xg λa b=>some (.c (.str (bn (a*b)))))else
 bif Nat.beq f 83 then(Xg λa b=>some (.c (.str (bn (Nat.gcd a b)))))else
 bif Nat.beq f 82 then(Xg λa b=>some (if b<=a then .aV (.c (.str (bn (a-b)))) (.aV (.c (.bool true)) .tnil)else .aV (.c (.str ⟨#[]⟩)) (.aV (.c (.bool false)) .tnil)))else
 bif Nat.beq f 84 then(Xg λa b=>if 0<b then some (.aV (.c (.str (bn (a/b)))) (.aV (.c (.str (bn (a%b)))) (.aV (.c (.bool true)) .tnil)))else none)else
 bif Nat.beq f 85 then(kI .u64 0 18446744073709551615 λi=>.c (.str (bn i.toNat)))else
 bif Nat.beq f 49 then(kI .i64 0 30 λi=>rV i)else
 bif Nat.beq f 48 then(kQ λi j=>rV ((i:Rat)/(j:Rat)))else
 bif Nat.beq f 26 then(kI .u16 0 65535 λi=>rV (amt i.toNat))else
 bif Nat.beq f 41 then(Xf true λp=>.c (.str (bn p.den)))else
 bif Nat.beq f 75 then kVd else
 bif Nat.beq f 37 then(Xf false λp=>rV p)else
 bif Nat.beq f 45 then(kB3 λn a b=>if 0<b then some (rV (fr n a b))else none)else
 bif Nat.beq f 151 then(kB3 λn a b=>some (if b=0 then rbV 0 false else rbV (fr n a b) true))else
 bif Nat.beq f 46 then(kI .i64 (-9223372036854775808) 9223372036854775807 λi=>.c (.str (bn i.natAbs)))else
 bif Nat.beq f 23 then(kI .i64 (-9223372036854775808) 9223372036854775807 λi=>rV i)else
 bif Nat.beq f 38 then(Xf true λp=>iV (sg p))else
 bif Nat.beq f 17 then(Xf false λp=>iV (sg p))else
 bif Nat.beq f 98 then(Xf true λp=>rV (-p))else
 bif Nat.beq f 44 then(NS true λp q=>rV (p+q))else
 bif Nat.beq f 22 then(NS false λp q=>rV (p+q))else
 bif Nat.beq f 60 then(NS false λp q=>rV (p-q))else
 bif Nat.beq f 117 then(NS false λp q=>rV (p*q))else
 bif Nat.beq f 115 then(NS false λp q=>rbV (FC p q) (okR q))else
 bif Nat.beq f 16 then(NS false λp q=>iV (oJ p q))else
 bif Nat.beq f 136 then(NS false λp q=>rV (Hr p q))else
 bif Nat.beq f 59 then(NS false λp q=>rV (FD p q))else
 λ_=>none
end
class jq (E:Env) (f:Nat):Prop where
 o:∀args v σ,jg f args=some v->E.Uj f args σ=some (v,σ)
def aeH{E:Env}{f:Nat}{args:List V}{v:V}{σ σ2:St}{K:V->St->Prop}(h:E.Uj f args σ=some (v,σ2)):aC E f args σ K=K v σ2:=by
 refine propext ⟨λ⟨n,v',σ',h1,h2⟩=>?_,λhk=>UM h hk⟩;have h3:iJ E 1 f args σ=some (v,σ2):=by rw[iJ];unfold Fa;rw[h]
 have a:=mF (show n<=n+1 by omega) f args σ _ h1;have b:=mF (show 1<=n+1 by omega) f args σ _ h3;rw[a]at b;cases b;exact h2
def aO{E:Env}{f:Nat}[hE:jq E f]{args:List V}{v:V}{σ:St}{K:V->St->Prop}(h:jg f args=some v):aC E f args σ K=K v σ:=aeH (hE.o args v σ h)
def Lp(P:Program)(f:Nat):Bool:=match P.funcs[f]? with|some fn=> !fn.body.isNone&& !(fn.name== "runtime.NumGoroutine")|none=>false
def xH{P:Program}{f:Nat}(h:Lp P f=true):okF P f:=by
 unfold Lp at h;split at h
 .next fn hfn=>
  simp only[af,gL]at h;exact⟨fn,hfn,h.1,h.2⟩
 .cases h
def Ct(P:Program)(f:Nat)(v:V)(bC:Array Value)(w:World):Prop:=
 Calls P f bC w λe w'=>∃cv,e=.returned cv/\Below w.heap.size w w'/\∀φ',RV φ' v cv
class xX (f:Nat):Prop where
 k:okF Tryz.prog f
 c:∀args v,jg f args=some v->∀(φ:Ph) (bC:Array Value) (w:World),Fb φ args bC.toList->Ct Tryz.prog f v bC w
class OkL (l:List Nat):Prop where
 o:∀f,l.contains f=true->xX f
class Mm (f:Nat) (l:List Nat):Prop where
 h:l.contains f=true
instance:OkL []:=⟨nofun⟩
instance {f:Nat}{l:List Nat} [h:xX f] [hl:OkL l]:OkL (f::l):=⟨λg hg=>by
 rw[List.contains_cons,Bool.or_eq_true]at hg;rcases hg with hg|hg
 .rw[eq_of_beq hg];exact h
 .exact hl.o g hg⟩
instance {f:Nat}{l:List Nat}:Mm f (f::l):=⟨by simp⟩
instance {f g:Nat}{l:List Nat} [h:Mm f l]:Mm f (g::l):=⟨by simpa using .inr (by simpa using h.h)⟩
def Eb(l:List Nat):Env:=⟨tF Tryz.prog,λf args σ=>bif l.contains f then(match jg f args with|some v=>some (v,σ)|none=>none)else none⟩
instance {f:Nat}{l:List Nat} [h:Mm f l]:jq (Eb l) f:=⟨λargs v σ hv=>by unfold Eb;dsimp only;rw[h.h,hv];rfl⟩
def xX.Uj{f:Nat}(h:xX f){args:List V}{σ σ':St}{v:V}(ho:(match jg f args with|some v=>some (v,σ)|none=>none)=some (v,σ')):okF Tryz.prog f/\∀(N:Nat) (w0:World) (φ:Ph) (w:World) (bC:Array Value),Rel N w0 φ σ w->Fb φ args bC.toList->
  Calls Tryz.prog f bC w λe w'=>∃cv,e=.returned cv/\∃φ',Ext σ.aj φ φ'/\Rel N w0 φ' σ' w'/\RV φ' v cv/\σ.aj<=σ'.aj:=by
 split at ho
 .next u hu=>
  cases ho
  refine⟨h.k,λN w0 φ w bC hR ha=>(h.c _ _ hu φ bC w ha).mono λe w' he=>?_⟩
  obtain⟨cv,rfl,hb,hv⟩:=he
  exact⟨cv,rfl,φ,Ext.refl _ _,hR.below hb,hv φ,jp⟩
 .cases ho
def O4{l:List Nat}[h:OkL l]:Lc Tryz.prog (Eb l):=by
 refine⟨λf F h=>aeA h,λf args σ v σ' ho=>?_⟩;unfold Eb at ho;dsimp only at ho;cases hc:l.contains f with
 |false=>rw[hc]at ho;cases ho
 |true=>rw[hc]at ho;exact(h.o f hc).Uj ho
def fB:B->Bool
 |.int ..|.bool _|.str _=>true
 |_=>false
def fV:V->Bool
 |.c x=>fB x
 |.agg l=>l.all fB
 |.aV a r=>fV a&&fV r
 |.tnil=>true
 |_=>false
section
variable {φ φ' : Ph}
def RB.flat{x:B}{v:Value}(h:fB x=true)(hv:RB φ x v):RB φ' x v:=by cases x<;>first|exact hv|cases h
def jU.flat:∀{l:List B}{r:List Value},l.all fB=true->jU φ l r->jU φ' l r
 |[],[],_,_=>trivial
 |_::_,_::_,h,hv=>by rw[dp,af]at h;exact⟨hv.1.flat h.1,jU.flat h.2 hv.2⟩
 |[],_::_,_,hv=>hv.elim
 |_::_,[],_,hv=>hv.elim
def RV.flat:∀{x:V}{v:Value},fV x=true->RV φ x v->RV φ' x v
 |.c _,_,h,hv=>RB.flat h hv
 |.agg _,_,h,⟨r,e,hr⟩=>⟨r,e,hr.flat h⟩
 |.aV _ _,_,h,⟨x,xs,e,h1,h2⟩=>by unfold fV at h;rw[af]at h;exact⟨x,xs,e,h1.flat h.1,h2.flat h.2⟩
 |.tnil,_,_,hv=>hv
def Fb.flat:∀{l:List V}{r:List Value},l.all fV=true->Fb φ l r->Fb φ' l r
 |[],[],_,_=>trivial
 |_::_,_::_,h,hv=>by rw[dp,af]at h;exact⟨hv.1.flat h.1,Fb.flat h.2 hv.2⟩
 |[],_::_,_,hv=>hv.elim
 |_::_,[],_,hv=>hv.elim
end
def auz(w:World):Rel w.heap.size w (λ_=>none) ⟨.leaf,0⟩ w:=
 ⟨jp,Below.refl _ _,nofun,nofun,nofun,nofun,λb _=>⟨rfl,Tr.Kz b⟩⟩
def Ee{E:Env}(hE:Lc Tryz.prog E){f:Nat}{args:List V}{v:V}(ha:args.all fV=true)(hv:fV v=true)(h:aC E f args ⟨.leaf,0⟩ λr _=>r=v)(φ:Ph)(bC:Array Value)(w:World)(hr:Fb φ args bC.toList):Ct Tryz.prog f v bC w:=by obtain⟨n,r,σ',h1,rfl⟩:=h;refine(O1 hE (by kernel_rfl) h1 (auz w) (hr.flat ha)).mono λe w' he=>?_;obtain⟨cv,rfl,φ',-,hR,hc,-⟩:=he;exact⟨cv,rfl,hR.bel,λφ=>hc.flat hv⟩
structure O5(k:Nat) where
 a:AF
 g:tG Tryz.prog k=some a:=by conv=>(lhs;reduce;simp only[amk,arj])
 i:UD Tryz.prog k a=true:=by kernel_rfl
def pz{f:Nat}{l:List Nat}(b:O5 f)(hl:l.contains f=false){args:List V}{σ:St}{K:V->St->Prop}(h:bK (Eb l) b.a.body (ini args) σ (X0 b.a.res K)):aC (Eb l) f args σ K:=
 aN (by unfold Eb;dsimp only;rw[hl];rfl) (amj b.g b.i) h
section
variable {E:Env} {σ:St} {K:V→St→Prop}
def ug:jg 76=kN1 (λa=>.c (.str (bn a))):=rfl
def wS:jg 39=Xg (λa b=>some (iV (oQ a b))):=rfl
def xI:jg 81=Xg (λa b=>some (.c (.str (bn (a+b))))):=rfl
def anE[jq E 81](a b:Nat)(h1:CQ a)(h2:CQ b):aC E 81 [.c (.str (bn a)),.c (.str (bn b))] σ K=K (.c (.str (bn (a+b)))) σ:=aO ((bN xI _).trans (Lm _ h1 h2 (by first|rfl|simp)))
def nY:jg 40=Xg (λa b=>some (.c (.str (bn (a*b))))):=rfl
def UN[jq E 40](a b:Nat)(h1:CQ a)(h2:CQ b):aC E 40 [.c (.str (bn a)),.c (.str (bn b))] σ K=K (.c (.str (bn (a*b)))) σ:=aO ((bN nY _).trans (Lm _ h1 h2 (by first|rfl|simp)))
def xJ:jg 83=Xg (λa b=>some (.c (.str (bn (Nat.gcd a b))))):=rfl
def anF[jq E 83](a b:Nat)(h1:CQ a)(h2:CQ b):aC E 83 [.c (.str (bn a)),.c (.str (bn b))] σ K=K (.c (.str (bn (Nat.gcd a b)))) σ:=aO ((bN xJ _).trans (Lm _ h1 h2 (by first|rfl|simp)))
def nZ:jg 82=Xg (λa b=>some (if b<=a then .aV (.c (.str (bn (a-b)))) (.aV (.c (.bool true)) .tnil)else .aV (.c (.str ⟨#[]⟩)) (.aV (.c (.bool false)) .tnil))):=rfl
def UO[jq E 82](a b:Nat)(h1:CQ a)(h2:CQ b):aC E 82 [.c (.str (bn a)),.c (.str (bn b))] σ K=K (if b<=a then .aV (.c (.str (bn (a-b)))) (.aV (.c (.bool true)) .tnil)else .aV (.c (.str ⟨#[]⟩)) (.aV (.c (.bool false)) .tnil)) σ:=aO ((bN nZ _).trans (Lm _ h1 h2 (by first|rfl|simp)))
def qN:jg 84=Xg (λa b=>if 0<b then some (.aV (.c (.str (bn (a/b)))) (.aV (.c (.str (bn (a%b)))) (.aV (.c (.bool true)) .tnil)))else none):=rfl
def abW[jq E 84](a b:Nat)(h1:CQ a)(h2:CQ b)(h0:0<b):aC E 84 [.c (.str (bn a)),.c (.str (bn b))] σ K=K (.aV (.c (.str (bn (a/b)))) (.aV (.c (.str (bn (a%b)))) (.aV (.c (.bool true)) .tnil))) σ:=aO ((bN qN _).trans (Lm _ h1 h2 (ae h0)))
def og:jg 85=kI .u64 0 18446744073709551615 (λi=>.c (.str (bn i.toNat))):=rfl
def UQ[jq E 85](x:Nat)(h1:x<18446744073709551616):aC E 85 [.c (.int .u64 (.ofNat x))] σ K=K (.c (.str (bn x))) σ:=aO ((bN og _).trans (ae ⟨rfl,by simp,by simp only[dj];omega⟩))
def FH:jg 49=kI .i64 0 30 (λi=>rV i):=rfl
def aeI[jq E 49](x:Nat)(h1:x<=30):aC E 49 [.c (.int .i64 (.ofNat x))] σ K=K (.agg [.bool (rn ((Int.ofNat x:Int):Rat)),.str (rs ((Int.ofNat x:Int):Rat)),.str (rd ((Int.ofNat x:Int):Rat))]) σ:=aO ((bN FH _).trans (ae ⟨rfl,by simp,by simp only[dj];omega⟩))
def QO:jg 48=kQ (λi j=>rV ((i:Rat)/(j:Rat))):=rfl
def DX:jg 26=kI .u16 0 65535 (λi=>rV (amt i.toNat)):=rfl
def abX[jq E 26](x:Nat)(h1:x<=65535):aC E 26 [.c (.int .u16 (.ofNat x))] σ K=K (.agg [.bool (rn (amt x)),.str (rs (amt x)),.str (rd (amt x))]) σ:=aO ((bN DX _).trans (ae ⟨rfl,by simp,by simp only[dj];omega⟩))
def dY:jg 41=Xf true (λp=>.c (.str (bn p.den))):=rfl
def qO:jg 75=kVd:=rfl
def Z4[jq E 75](p:Rat)(hp:Sz p):aC E 75 [.agg [.bool (rn p),.str (rs p),.str (rd p)]] σ K=K (.c (.bool true)) σ:=aO ((bN qO _).trans (anC hp))
def mV:jg 37=Xf false (λp=>rV p):=rfl
def aje[jq E 37](p:Rat)(hp:Sz p):aC E 37 [.agg [.bool (rn p),.str (rs p),.str (rd p)]] σ K=K (.agg [.bool (rn p),.str (rs p),.str (rd p)]) σ:=aO ((bN mV _).trans (X3 _ _ hp))
def UR[jq E 37](n:Bool)(s d:ByteArray)(h1:s.size+d.size<=130000000):aC E 37 [.agg [.bool n,.str s,.str d]] σ K=K (.agg [.bool (rn (rq n s d)),.str (rs (rq n s d)),.str (rd (rq n s d))]) σ:=aO ((bN mV _).trans (ae ⟨h1,nofun⟩))
def vH:jg 45=kB3 (λn a b=>if 0<b then some (rV (fr n a b))else none):=rfl
def sK:jg 151=kB3 (λn a b=>some (if b=0 then rbV 0 false else rbV (fr n a b) true)):=rfl
def anG[jq E 151](n:Bool)(a b:Nat)(h1:CQ a)(h2:CQ b)(h0:0<b):aC E 151 [.c (.bool n),.c (.str (bn a)),.c (.str (bn b))] σ K=K (.aV (.agg [.bool (rn (fr n a b)),.str (rs (fr n a b)),.str (rd (fr n a b))]) (.aV (.c (.bool true)) .tnil)) σ:=aO ((bN sK _).trans (anD _ h1 h2 (by rw[ab jb];rfl)))
def su:jg 46=kI .i64 (-9223372036854775808) 9223372036854775807 (λi=>.c (.str (bn i.natAbs))):=rfl
def A8:jg 23=kI .i64 (-9223372036854775808) 9223372036854775807 (λi=>rV i):=rfl
def ark[jq E 23](i:Int)(h1: -9223372036854775808<=i)(h2:i<=9223372036854775807):aC E 23 [.c (.int .i64 i)] σ K=K (.agg [.bool (rn i),.str (rs i),.str (rd i)]) σ:=aO ((bN A8 _).trans (ae ⟨rfl,h1,h2⟩))
def jr:jg 38=Xf true (λp=>iV (sg p)):=rfl
def sN:jg 17=Xf false (λp=>iV (sg p)):=rfl
def anH[jq E 17](p:Rat)(hp:Sz p):aC E 17 [.agg [.bool (rn p),.str (rs p),.str (rd p)]] σ K=K (.c (.int .i64 (sg p))) σ:=aO ((bN sN _).trans (X3 _ _ hp))
def ajf[jq E 17](n:Bool)(s d:ByteArray)(h1:s.size+d.size<=130000000):aC E 17 [.agg [.bool n,.str s,.str d]] σ K=K (.c (.int .i64 (sg (rq n s d)))) σ:=aO ((bN sN _).trans (ae ⟨h1,nofun⟩))
def pF:jg 98=Xf true (λp=>rV (-p)):=rfl
def aeJ[jq E 98](p:Rat)(hp:Sz p):aC E 98 [.agg [.bool (rn p),.str (rs p),.str (rd p)]] σ K=K (.agg [.bool (rn (-p)),.str (rs (-p)),.str (rd (-p))]) σ:=aO ((bN pF _).trans (X3 _ _ hp))
def pG:jg 44=NS true (λp q=>rV (p+q)):=rfl
def arl[jq E 44](p q:Rat)(hp:Sz p)(hq:Sz q):aC E 44 [.agg [.bool (rn p),.str (rs p),.str (rd p)],.agg [.bool (rn q),.str (rs q),.str (rd q)]] σ K=K (.agg [.bool (rn (p+q)),.str (rs (p+q)),.str (rd (p+q))]) σ:=aO ((bN pG _).trans (AZ _ _ hp hq))
def vI:jg 22=NS false (λp q=>rV (p+q)):=rfl
def arn[jq E 22](p q:Rat)(hp:Sz p)(hq:Sz q):aC E 22 [.agg [.bool (rn p),.str (rs p),.str (rd p)],.agg [.bool (rn q),.str (rs q),.str (rd q)]] σ K=K (.agg [.bool (rn (p+q)),.str (rs (p+q)),.str (rd (p+q))]) σ:=aO ((bN vI _).trans (AZ _ _ hp hq))
def anI[jq E 22](n m:Bool)(s d t e:ByteArray)(h1:s.size+d.size<=130000000)(h2:t.size+e.size<=130000000):aC E 22 [.agg [.bool n,.str s,.str d],.agg [.bool m,.str t,.str e]] σ K=K (.agg [.bool (rn ((rq n s d)+(rq m t e))),.str (rs ((rq n s d)+(rq m t e))),.str (rd ((rq n s d)+(rq m t e)))]) σ:=aO ((bN vI _).trans (ae ⟨⟨h1,h2⟩,nofun⟩))
def nC:jg 60=NS false (λp q=>rV (p-q)):=rfl
def X4[jq E 60](p q:Rat)(hp:Sz p)(hq:Sz q):aC E 60 [.agg [.bool (rn p),.str (rs p),.str (rd p)],.agg [.bool (rn q),.str (rs q),.str (rd q)]] σ K=K (.agg [.bool (rn (p-q)),.str (rs (p-q)),.str (rd (p-q))]) σ:=aO ((bN nC _).trans (AZ _ _ hp hq))
def UU[jq E 60](n m:Bool)(s d t e:ByteArray)(h1:s.size+d.size<=130000000)(h2:t.size+e.size<=130000000):aC E 60 [.agg [.bool n,.str s,.str d],.agg [.bool m,.str t,.str e]] σ K=K (.agg [.bool (rn ((rq n s d)-(rq m t e))),.str (rs ((rq n s d)-(rq m t e))),.str (rd ((rq n s d)-(rq m t e)))]) σ:=aO ((bN nC _).trans (ae ⟨⟨h1,h2⟩,nofun⟩))
def uh:jg 117=NS false (λp q=>rV (p*q)):=rfl
def X5[jq E 117](p q:Rat)(hp:Sz p)(hq:Sz q):aC E 117 [.agg [.bool (rn p),.str (rs p),.str (rd p)],.agg [.bool (rn q),.str (rs q),.str (rd q)]] σ K=K (.agg [.bool (rn (p*q)),.str (rs (p*q)),.str (rd (p*q))]) σ:=aO ((bN uh _).trans (AZ _ _ hp hq))
def wU:jg 115=NS false (λp q=>rbV (FC p q) (okR q)):=rfl
def aeK[jq E 115](p q:Rat)(hp:Sz p)(hq:Sz q):aC E 115 [.agg [.bool (rn p),.str (rs p),.str (rd p)],.agg [.bool (rn q),.str (rs q),.str (rd q)]] σ K=K (.aV (.agg [.bool (rn (FC p q)),.str (rs (FC p q)),.str (rd (FC p q))]) (.aV (.c (.bool (okR q))) .tnil)) σ:=aO ((bN wU _).trans (AZ _ _ hp hq))
def kM:jg 16=NS false (λp q=>iV (oJ p q)):=rfl
def abY[jq E 16](p q:Rat)(hp:Sz p)(hq:Sz q):aC E 16 [.agg [.bool (rn p),.str (rs p),.str (rd p)],.agg [.bool (rn q),.str (rs q),.str (rd q)]] σ K=K (.c (.int .i64 (oJ p q))) σ:=aO ((bN kM _).trans (AZ _ _ hp hq))
def vJ:jg 136=NS false (λp q=>rV (Hr p q)):=rfl
def aro[jq E 136](p q:Rat)(hp:Sz p)(hq:Sz q):aC E 136 [.agg [.bool (rn p),.str (rs p),.str (rd p)],.agg [.bool (rn q),.str (rs q),.str (rd q)]] σ K=K (.agg [.bool (rn (Hr p q)),.str (rs (Hr p q)),.str (rd (Hr p q))]) σ:=aO ((bN vJ _).trans (AZ _ _ hp hq))
def anJ[jq E 136](n m:Bool)(s d t e:ByteArray)(h1:s.size+d.size<=130000000)(h2:t.size+e.size<=130000000):aC E 136 [.agg [.bool n,.str s,.str d],.agg [.bool m,.str t,.str e]] σ K=K (.agg [.bool (rn (Hr (rq n s d) (rq m t e))),.str (rs (Hr (rq n s d) (rq m t e))),.str (rd (Hr (rq n s d) (rq m t e)))]) σ:=aO ((bN vJ _).trans (ae ⟨⟨h1,h2⟩,nofun⟩))
def vK:jg 59=NS false (λp q=>rV (FD p q)):=rfl
def arp[jq E 59](p q:Rat)(hp:Sz p)(hq:Sz q):aC E 59 [.agg [.bool (rn p),.str (rs p),.str (rd p)],.agg [.bool (rn q),.str (rs q),.str (rd q)]] σ K=K (.agg [.bool (rn (FD p q)),.str (rs (FD p q)),.str (rd (FD p q))]) σ:=aO ((bN vK _).trans (AZ _ _ hp hq))
def anK[jq E 59](n m:Bool)(s d t e:ByteArray)(h1:s.size+d.size<=130000000)(h2:t.size+e.size<=130000000):aC E 59 [.agg [.bool n,.str s,.str d],.agg [.bool m,.str t,.str e]] σ K=K (.agg [.bool (rn (FD (rq n s d) (rq m t e))),.str (rs (FD (rq n s d) (rq m t e))),.str (rd (FD (rq n s d) (rq m t e)))]) σ:=aO ((bN vK _).trans (ae ⟨⟨h1,h2⟩,nofun⟩))
end
end Go.Proofs.Xe
end
