import Derived.Test.YtchhojplceoifaaGreatDoorYf8
import Derived.Test.YtchhojplceoifaaGreatDoorYf2
set_option linter.all false
noncomputable section
namespace Go.Proofs.Xe
open Go Go.RowKit Go.Proofs.Ins
noncomputable section
def om{α β:Type}(f:α->Option β):List α->Option (List β)
 |[]=>some []
 |x::l=>match f x,om f l with|some y,some r=>some (y::r)|_,_=>none
def fL{α:Sort _}:List Nat->(List Nat->α)->α
 |[],k=>k []
 |x::l,k=>fN x λx=>fL l λl=>k (x::l)
def tB:Value->Option B
 |.int k n=>some (.int k n)
 |.bool b=>some (.bool b)
 |.string s=>bif Nat.beq s.size 0 then some (.str ⟨#[]⟩)else some (.str s)
 |.pointer none=>some .UM
 |.slice none 0 0=>some .aP
 |_=>none
def tV:Value->Option V
 |.agg r=>(om tB r.toList).map .agg
 |.nilFunc=>some .Oa
 |v=>(tB v).map .c
def tO:Operand->Option O
 |.tmp t=>some (.t t)
 |.const v=>(tV v).map .k
 |.func f=>some (.k (.fn f []))
 |_=>none
def tOO:Option Operand->Option (Option O)
 |none=>some none
 |some x=>(tO x).map some
def tZ(P:Program)(t:TypeId):Option (List B):=match P.info? t with
 |some i=>(match i.zero with|some z=>om tB z.cells.toList|none=>none)
 |none=>none
def tTy(P:Program)(t:TypeId):Option (Nat×Bool):=match P.info? t,P.underlying t with
 |some i,some d=>fN i.size λn=>some (n,avx d)
 |_,_=>none
def tEl(P:Program)(t:TypeId):Option TypeId:=match P.underlying t with|some (.slice e)=>some e|_=>none
def tSz(P:Program)(t:TypeId):Option Nat:=match P.info? t with|some i=>fN i.size some|none=>none
def tBy(P:Program)(t:TypeId):Option Nat:=match P.info? t with|some i=>fN i.bytes some|none=>none
def tPs(g:Nat->Option (Nat×Nat)):List (Nat×Operand)->Option (List (Nat×Nat×O)):=om λx=>match g x.1,tO x.2 with|some p,some y=>fN p.1 λa=>fN p.2 λb=>some (a,b,y)|_,_=>none
def eqK:BinOp->Option Bool
 |.eql=>some true
 |.neq=>some false
 |_=>none
def tEq(P:Program)(p:Bool)(t:TypeId)(x:O)(y:Operand)(z:O):Option wS:=match P.underlying t with
 |some .bool=>some (.eqb p x z)
 |some (.struct _)=>bif Xr P t then some (.Io p x z)else some (.F8 p x z)
 |some (.slice _)=>some (.nil 0 p x)
 |some (.pointer _)=>some (.nil 1 p x)
 |some (.func ..)=>some (.nil 2 p x)
 |_=>none
def tOp(P:Program):Op->Option wS
 |.move x|.assign x=>do some (.mov (<-tO x))
 |.pick c a b=>do some (.pick (<-tO c) (<-tO a) (<-tO b))
 |.load t x=>do
  let g<-tTy P t
  some (.load g.1 g.2 (<-tO x))
 |.store t x u=>do some (.store (<-tSz P t) (<-tO x) (<-tO u))
 |.fieldAddr s x f=>do
  let fd<-EO P s f
  some (.Dp fd.offset (<-tO x))
 |.field s x f=>do
  let fd<-EO P s f
  let g<-tTy P fd.type
  some (.field fd.offset g.1 g.2 (<-tO x))
 |.indexAddr t x i=>match P.underlying t,i with
  |some (.slice el),i=>do some (.F7 (<-tSz P el) (<-tO x) (<-tO i))
  |some (.array _ el),.const (.int _ (.ofNat j))=>do
   let n<-tSz P el
   let y<-tO x
   fN (j*n) λm=>some (.Dp m y)
  |_,_=>none
 |.extract x i=>do some (.ext i (<-tO x))
 |.binOp b t x y _=>do
  let x'<-tO x
  let y'<-tO y
  match eqK b with
  |some p=>(match tEq P p t x' y y' with|some r=>some r|none=>some (.bin b x' y'))
  |none=>some (.bin b x' y')
 |.unOp .not _ x=>do some (.not (<-tO x))
 |.unOp .neg t x=>match P.underlying t with
  |some (.int k)=>do some (.bin .sub (.k (.c (.int k (.ofNat 0)))) (<-tO x))
  |_=>none
 |.index _ x i=>do some (.aeE (<-tO x) (<-tO i))
 |.convert _ d x=>match P.underlying d with
  |some (.int k)=>do some (.conv k (<-tO x))
  |some .string=>do some (.aax (<-tO x))
  |_=>none
 |.build t ps=>match P.underlying t with
  |some (.struct fs)=>do
   let pl<-placesOf P fs.toList
   some (.build (<-tZ P t) (<-tPs (λi=>pl[i]?) ps.toList))
  |_=>none
 |.makeMap t none=>bif Nat.beq t 138 then some .KP else some .Ob
 |.lookup _ m k false=>do some (.lookup (<-tO m) (<-tO k))
 |.mapUpdate _ m k v=>do some (.UN (<-tO m) (<-tO k) (<-tO v))
 |.makeFunc (.func f) _ cs=>do some (.Q7 f (<-om tO cs.toList))
 |.slice t x lo hi mx=>bif Xt P t then(match lo with|some i=>do some (.SC (<-tO x) (<-tO i))|none=>none)else do
  let e<-tEl P t
  some (.slice (<-tSz P e) (<-tO x) (<-tOO lo) (<-tOO hi) (<-tOO mx))
 |.nilCheck x=>do some (.Q8 (<-tO x))
 |.alloc e=>do some (.alloc (<-tZ P e))
 |.box _ x=>do some (.box (<-tO x))
 |.makeSlice t l c=>do
  let e<-tEl P t
  some (.Lp (<-tBy P e) (<-tZ P e) (<-tO l) (<-tO c))
 |.buildSlice t len ps=>do
  let e<-tEl P t
  let n<-tSz P e
  some (.bsl n len (<-tZ P e) (<-tPs (λi=>some (i*n,n)) ps.toList))
 |.call c=>match c.callee,c.args.toList,c.argTypes.toList with
  |.value f,xs,_=>do some (.call (<-tO f) (<-om tO xs))
  |.builtin .len,[x],[t]=>do
   let y<-tO x
   bif Xt P t then some (.slen y)else some (.len y)
  |.builtin .min,[x,y],_=>do some (.min2 (<-tO x) (<-tO y))
  |.builtin .append,[s,x],[t,_]=>do
   let e<-tEl P t
   some (.app e (<-tSz P e) (<-tBy P e) (<-tO s) (<-tO x))
  |_,_,_=>none
 |_=>none
def tAO(P:Program)(ops:Array Oper)(o:Oper):Option AO:=match tOp P o.op with
 |some a=>(match o.guard with
  |none=>some ⟨o.dst,none,a⟩
  |some (j,b)=>(match(ops[j]?).bind (·.dst)with|some d=>some ⟨o.dst,some (d,b),a⟩|none=>none))
 |none=>none
def uni:List Nat->List Nat->List Nat
 |[],l=>l
 |x::r,l=>bif l.contains x then uni r l else uni r (x::l)
def ptE(acc:List (List Nat)):List Edge->List Nat->List Nat
 |[],l=>l
 |e::r,l=>bif Region.binds .any e then fL (uni (e.on::acc.getD e.on []) l) (ptE acc r)else ptE acc r l
def ptL{α:Sort _}:List Oper->List (List Nat)->(List (List Nat)->α)->α
 |[],acc,k=>k acc
 |o::r,acc,k=>fL (ptE acc o.after.toList []) λl=>ptL r (acc++[l]) k
def aro:List AO->Nat->List Nat
 |[],_=>[]
 |a::l,i=>bif DC a.op.kind then aro l (i+1)else i::aro l (i+1)
def ap7:List AO->Nat->Nat->Option Nat
 |[],_,_=>none
 |a::l,i,t=>bif (match a.dst with|some d=>Nat.beq d t|none=>false)then some i else ap7 l (i+1) t
def acM:List Operand->List Nat
 |[]=>[]
 |.tmp t::l=>t::acM l
 |_::l=>acM l
def ap8(aos:List AO)(w:List Nat):List Nat->List Nat×List Nat
 |[]=>([],[])
 |t::l=>match ap7 aos 0 t,ap8 aos w l with
  |some p,(us,os)=>bif w.contains p then(uni [p] us,os)else(us,uni [t] os)
  |none,r=>r
def aaL(w:List Nat):List Nat->Nat->Nat->Nat
 |[],_,b=>b
 |x::l,k,b=>bif w.contains x then aaL w l (k+1) k else aaL w l (k+1) b
def avN(pt:List (List Nat))(acts:List Nat)(aos:List AO):List Oper->List AO->Nat->List (Nat×DO)
 |o::r,a::l,i=>
  let w:=pt.getD i []
  match ap8 aos w (match a.g with|some (t,_)=>t::acM o.op.operands.toList|none=>acM o.op.operands.toList)with
  |(us,os)=>fL us λus=>fL os λos=>fN (aaL w acts 1 0) λs=>fN i λi=>(s,⟨i,us,os,a⟩)::avN pt acts aos r l (i+1)
 |_,_,_=>[]
def qOf(s:Nat):List (Nat×DO)->(List DO->Option Dr)->Option Dr
 |[],k=>k []
 |(t,d)::l,k=>bif Nat.beq t s&&DC d.o.op.kind then qOf s l λr=>k (d::r)else qOf s l k
def ap9(x:Nat):List (Nat×DO)->Option DO
 |[]=>none
 |(_,d)::l=>bif Nat.beq d.i x then some d else ap9 x l
def tDr(JK:List (Nat×DO)):List Nat->Nat->Option Dr
 |[],s=>qOf s JK λq=>some (.fin q)
 |x::r,s=>match ap9 x JK,tDr JK r (s+1)with
  |some d,some D=>qOf s JK λq=>some (.act q d D)
  |_,_=>none
def dsL:List AO->List Nat
 |[]=>[]
 |a::l=>match a.dst with|some d=>d::dsL l|none=>dsL l
def azc(P:Program)(ops:Array Oper):Bool->Option AC
 |false=>(om (tAO P ops) ops.toList).map .ops
 |true=>match om (tAO P ops) ops.toList with
  |some aos=>ptL ops.toList [] λpt=>fL (aro aos 0) λacts=>(match tDr (avN pt acts aos ops.toList aos 0) acts 0 with
   |some D=>fL (dsL aos) λds=>some (.drawn D pt ds)
   |none=>none)
  |none=>none
def tC(P:Program):Code->Option AC
 |.skip|.label _=>some .skip
 |.region _ ops dr=>azc P ops dr
 |.seq a b=>match tC P a,tC P b with|some x,some y=>some (.seq x y)|_,_=>none
 |.cond c a b=>match tO c,tC P a,tC P b with|some z,some x,some y=>some (.cond z x y)|_,_,_=>none
 |.block i a=>match tC P a with|some x=>some (.block i x)|none=>none
 |.loop a=>match tC P a with|some x=>some (.loop x)|none=>none
 |.exit i=>some (.exit i)
 |.ret=>some .ret
 |_=>none
def arp(P:Program):List ResultVar->Option (List (Nat×Option (Nat×Bool)))
 |[]=>some []
 |.tmp t::r=>match arp P r with|some l=>some ((t,none)::l)|none=>none
 |.cell t ty::r=>match tTy P ty,arp P r with|some g,some l=>some ((t,some g)::l)|_,_=>none
def tG(P:Program)(f:Nat):Option AF:=match P.funcs[f]? with
 |some fn=>(match fn.body with
  |some c=>(match tC P c,arp P fn.results.toList with
   |some b,some r=>fN fn.ntmps λn=>some ⟨n,b,r⟩
   |_,_=>none)
  |none=>none)
 |none=>none
def tF(P:Program)(f:Nat):Option AF:=match tG P f with
 |some F=>bif XE P f F then some F else none
 |none=>none
def aqa{P:Program}{f:Nat}{F:AF}(h:tG P f=some F)(hi:XE P f F=true):tF P f=some F:=by unfold tF;rw[h];dsimp only;rw[hi];rfl
def ahF{P:Program}{f:Nat}{F:AF}(h:tF P f=some F):XE P f F=true:=by
 unfold tF at h;split at h
 .next F' _=>
  cases hi:XE P f F' with
  |false=>rw[hi]at h;cases h
  |true=>rw[hi]at h;cases h;exact hi
 .cases h
end
def aqb:ByteArray.mk (Array.mk [])=⟨#[]⟩:=rfl
def avO:ByteArray.mk (Array.mk [UInt8.ofBitVec (BitVec.ofFin ⟨1,jj⟩)])=bn 1:=rfl
end Go.Proofs.Xe
namespace Go.Proofs.Xe
open Go.RowKit Go.Proofs.Ins
def aeT(cl cl':Nat->List V->St->Option (V×St)):Prop:=∀f args σ r,cl f args σ=some r->cl' f args σ=some r
section
variable {cl cl' : Nat→List V→St→Option (V×St)}
theorem XH(h:aeT cl cl'){op:wS}{tm:Tr V}{σ:St}{r:V×St}(hs:qw cl op tm σ=some r):qw cl' op tm σ=some r:=by
 unfold qw at hs⊢;split at hs
 .exact hs
 .exact hs
 .exact hs
 .next e=>
  split at hs
  .next f args e2=>exact h _ _ _ _ hs
  omega
def IE(h:aeT cl cl'){o:AO}{tm:Tr V}{σ:St}{r:V×St}(hs:stepG cl o tm σ=some r):stepG cl' o tm σ=some r:=by grind[stepG,XH]
theorem JL(h:aeT cl cl'):∀{l:List AO}{tm:Tr V}{σ:St}{r:Tr V×St},uz cl l tm σ=some r->uz cl' l tm σ=some r
 |[],_,_,_,hs=>hs
 |o::l,tm,σ,r,hs=>by
  unfold uz at hs⊢;split at hs
  .next v σ' e=>
   rw[IE h e];dsimp only;split at hs
   .next tm' e2=>exact JL h hs
   .cases hs
  .cases hs
theorem U5(h:aeT cl cl'){pt:List (List Nat)}{dI bV:Tr V}:∀{d:Dr}{σ:St}{res:List Rs}{pd:List iW}{r:Tr V×St},Dt cl pt dI bV d σ res pd=some r->Dt cl' pt dI bV d σ res pd=some r
 |.fin qs,σ,res,pd,r,hs=>by grind[Dt]
 |.act qs x d,σ,res,pd,r,hs=>by
  unfold Dt at hs⊢;split at hs
  .next σ1 res1 pd1 e=>
   cases hb:pd1.all (again σ1)with
   |false=>rw[hb]at hs;cases hs
   |true=>
    rw[hb]at hs
    simp only[ck]at hs⊢
    split at hs
    .next tm e2=>
     split at hs
     .next v σ2 e3=>
      rw[IE h e3]
      exact U5 h hs
     .cases hs
    .cases hs
  .cases hs
end
def U6(E:Env):∀n,(∀c tm σ r,exec E n c tm σ=some r->exec E (n+1) c tm σ=some r)/\aeT (jd E n) (jd E (n+1))
 |0=>⟨λc tm σ r h=>by grind[exec],λf args σ r h=>by grind[jd]⟩
 |n+1=>by
  obtain⟨h1,h2⟩:=U6 E n;refine⟨λc tm σ r h=>?_,λf args σ r h=>?_⟩
  .cases c with
   |skip=>grind[exec]
   |ops l=>
    simp only[exec,Xo]at h⊢
    grind[Go.Proofs.Xe.JL]
   |drawn d pt ds=>
    simp only[exec,xDr,Xo]at h⊢
    grind[Go.Proofs.Xe.U5]
   |seq a b=>
    rw[exec]at h⊢
    cases hx:exec E n a tm σ with
    |none=>rw[hx]at h;cases h
    |some q=>
     rw[hx]at h
     rw[h1 _ _ _ _ hx]
     obtain⟨e,tm',σ'⟩:=q
     cases e with
     |normal=>exact h1 _ _ _ _ h
     |exit i=>exact h
     |ret=>exact h
   |cond x a b=>
    simp only[exec,acI]at h⊢
    split at h
    .exact h1 _ _ _ _ h
    .cases h
   |block i a=>
    rw[exec]at h⊢
    cases hx:exec E n a tm σ with
    |none=>rw[hx]at h;cases h
    |some q=>grind
   |loop a=>
    rw[exec]at h⊢
    cases hx:exec E n a tm σ with
    |none=>rw[hx]at h;cases h
    |some q=>
     rw[hx]at h
     rw[h1 _ _ _ _ hx]
     obtain⟨e,tm',σ'⟩:=q
     cases e with
     |normal=>exact h1 _ _ _ _ h
     |exit i=>exact h
     |ret=>exact h
   |exit i=>grind[exec]
   |ret=>grind[exec]
   |bad=>grind[exec]
  .rw[jd]at h⊢;unfold Iq at h⊢;split at h
   .exact h
   .split at h
    .split at h
     .next tm e=>
      unfold aeG at h⊢;grind
     .cases h
    .cases h
def ET{E:Env}{n m:Nat}(h:n<=m){c:AC}{tm:Tr V}{σ:St}{r:AX×Tr V×St}(hx:exec E n c tm σ=some r):exec E m c tm σ=some r:=by
 induction h with
 |refl=>exact hx
 |step _ ih=>simp_all[U6]
def oD{E:Env}{n m:Nat}(h:n<=m):aeT (jd E n) (jd E m):=by
 induction h with
 |refl=>exact λ_ _ _ _ h=>h
 |step _ ih=>exact λf args σ r hx=>(U6 E _).2 _ _ _ _ (ih f args σ r hx)
def aC(E:Env)(f:Nat)(args:List V)(σ:St)(Q:V->St->Prop):Prop:=∃n v σ',jd E n f args σ=some (v,σ')/\Q v σ'
def bM(E:Env)(c:AC)(tm:Tr V)(σ:St)(Q:AX->Tr V->St->Prop):Prop:=∃n e tm' σ',exec E n c tm σ=some (e,tm',σ')/\Q e tm' σ'
section
variable {E:Env} {tm:Tr V} {σ:St} {Q Q' : AX→Tr V→St→Prop}
def aC.mono{f:Nat}{args:List V}{K K':V->St->Prop}(h:aC E f args σ K)(hk:∀v σ',K v σ'->K' v σ'):aC E f args σ K':=by obtain⟨n,v,σ',h1,h2⟩:=h;exact⟨n,v,σ',h1,hk _ _ h2⟩
def bM.mono{c:AC}(h:bM E c tm σ Q)(hk:∀e tm' σ',Q e tm' σ'->Q' e tm' σ'):bM E c tm σ Q':=by obtain⟨n,e,tm',σ',h1,h2⟩:=h;exact⟨n,e,tm',σ',h1,hk _ _ _ h2⟩
def U7(E:Env)(b:AC)(Q:AX->Tr V->St->Prop):AX->Tr V->St->Prop
 |.normal,tm,σ=>bM E b tm σ Q
 |e,tm,σ=>Q e tm σ
def run_seq{a b:AC}(h:bM E a tm σ (U7 E b Q)):bM E (.seq a b) tm σ Q:=by
 obtain⟨n,e,tm',σ',h1,h2⟩:=h;cases e with
 |normal=>
  obtain⟨m,e2,XB,σ2,h3,h4⟩:=h2
  refine⟨n+m+1,e2,XB,σ2,?_,h4⟩
  rw[exec,ET jb h1]
  exact ET jb h3
 |exit i=>exact⟨n+1,_,tm',σ',by rw[exec,h1];rfl,h2⟩
 |ret=>exact⟨n+1,_,tm',σ',by rw[exec,h1];rfl,h2⟩
def XI(h:Q .normal tm σ):bM E .skip tm σ Q:=⟨1,_,_,_,by rw[exec],h⟩
def ahG{i:Nat}(h:Q (.exit i) tm σ):bM E (.exit i) tm σ Q:=⟨1,_,_,_,by rw[exec],h⟩
def amv(h:Q .ret tm σ):bM E .ret tm σ Q:=⟨1,_,_,_,by rw[exec],h⟩
theorem ahH{x:O}{a b:AC}{t:Bool}(hx:x.ev tm=.c (.bool t))(h:bM E (bif t then a else b) tm σ Q):bM E (.cond x a b) tm σ Q:=by obtain⟨n,e,tm',σ',h1,h2⟩:=h;exact⟨n+1,e,tm',σ',by rw[exec,hx];exact h1,h2⟩
def ahI(i:Nat)(Q:AX->Tr V->St->Prop):AX->Tr V->St->Prop
 |.exit j,tm,σ=>Q (bif Nat.beq j i then .normal else .exit j) tm σ
 |e,tm,σ=>Q e tm σ
def EU{i:Nat}{a:AC}(h:bM E a tm σ (ahI i Q)):bM E (.block i a) tm σ Q:=by
 obtain⟨n,e,tm',σ',h1,h2⟩:=h;cases e with
 |normal=>exact⟨n+1,_,tm',σ',by rw[exec,h1];rfl,h2⟩
 |exit j=>exact⟨n+1,_,tm',σ',by rw[exec,h1];rfl,h2⟩
 |ret=>exact⟨n+1,_,tm',σ',by rw[exec,h1];rfl,h2⟩
def amw(I:Nat->Tr V->St->Prop)(m:Nat)(Q:AX->Tr V->St->Prop):AX->Tr V->St->Prop
 |.normal,tm,σ=>∃m',m'<m/\I m' tm σ
 |e,tm,σ=>Q e tm σ
def aF{a:AC}(I:Nat->Tr V->St->Prop)(m:Nat)(h0:I m tm σ)(h:∀m tm σ,I m tm σ->bM E a tm σ (amw I m Q)):bM E (.loop a) tm σ Q:=by
 induction m using Nat.strongRecOn generalizing tm σ with
 |ind m ih=>
  obtain⟨n,e,tm',σ',h1,h2⟩:=h m tm σ h0
  cases e with
  |normal=>
   obtain⟨m',hlt,hI⟩:=h2
   obtain⟨k,e2,XB,σ2,h3,h4⟩:=ih m' hlt hI
   refine⟨n+k+1,e2,XB,σ2,?_,h4⟩
   rw[exec,ET jb h1]
   exact ET jb h3
  |exit i=>exact⟨n+1,_,tm',σ',by rw[exec,h1];rfl,h2⟩
  |ret=>exact⟨n+1,_,tm',σ',by rw[exec,h1];rfl,h2⟩
def FP(tm:Tr V)(d:Option Nat)(v:V):Tr V:=match d with|none=>tm|some d=>tm.set d (some v)
theorem MC(tm:Tr V)(d:Option Nat)(v:V):JD tm d v=some (FP tm d v):=by cases d<;>rfl
def wpOp(E:Env)(op:wS)(tm:Tr V)(σ:St)(K:V->St->Prop):Prop:=
 match op with
 |.call g args=>match g.ev tm with
  |.fn f caps=>aC E f (args.map (·.ev tm)++caps.map .c) σ K
  |_=>False
 |op=>match qw (λ_ _ _=>none) op tm σ with|some (v,σ')=>K v σ'|none=>False
def wpG(E:Env)(o:AO)(tm:Tr V)(σ:St)(K:V->St->Prop):Prop:=
 match gate o.g tm with
 |some true=>wpOp E o.op tm σ K
 |some false=>K .tnil σ
 |none=>False
def wpOps(E:Env):List AO->Tr V->St->(Tr V->St->Prop)->Prop
 |[],tm,σ,Q=>Q tm σ
 |o::r,tm,σ,Q=>wpG E o tm σ λv σ'=>wpOps E r (FP tm o.dst v) σ' Q
theorem aeU{op:wS}{K:V->St->Prop}(h:wpOp E op tm σ K):∃n v σ',qw (jd E n) op tm σ=some (v,σ')/\K v σ':=by
 unfold wpOp at h;split at h
 .next g args=>
  split at h
  .next f caps e=>
   obtain⟨n,v,σ',h1,h2⟩:=h;grind[Go.Proofs.Xe.qw,Go.Proofs.Xe.wS.kind,Go.Proofs.Xe.acG]
  grind
 .split at h
  .next v σ' e=>exact⟨0,v,σ',XH (cl:=λ_ _ _=>none) (λ_ _ _ _ h=>by cases h) e,h⟩
  grind
def XJ{o:AO}{K:V->St->Prop}(h:wpG E o tm σ K):∃n v σ',stepG (jd E n) o tm σ=some (v,σ')/\K v σ':=by
 unfold wpG at h;split at h
 .grind[Go.Proofs.Xe.aeU,Go.Proofs.Xe.stepG]
 .next e=>exact⟨0,_,_,by grind[stepG],h⟩
 grind
def OE:∀{l:List AO}{tm:Tr V}{σ:St}{Q:Tr V->St->Prop},wpOps E l tm σ Q->∃n tm' σ',uz (jd E n) l tm σ=some (tm',σ')/\Q tm' σ'
 |[],tm,σ,Q,h=>⟨0,tm,σ,rfl,h⟩
 |o::l,tm,σ,Q,h=>by obtain⟨n,v,σ1,h1,h2⟩:=XJ (show wpG E o tm σ _ from h);obtain⟨m,tm',σ',h3,h4⟩:=OE h2;refine⟨n+m,tm',σ',?_,h4⟩;unfold uz;rw[IE (oD jb) h1];dsimp only;rw[MC];exact JL (oD jb) h3
def amx{l:List AO}(h:wpOps E l tm σ λtm' σ'=>Q .normal tm' σ'):bM E (.ops l) tm σ Q:=by obtain⟨n,tm',σ',h1,h2⟩:=OE h;exact⟨n+1,.normal,tm',σ',by rw[exec,h1];rfl,h2⟩
def XK(E:Env)(pt:List (List Nat))(dI bV:Tr V):Dr->St->List Rs->List iW->(Tr V->St->Prop)->Prop
 |.fin qs,σ,res,pd,Q=>(match yU dI bV qs σ res pd with
  |some (σ,res,pd)=>pd.all (again σ)=true/\(match Lr bV res with|some tm=>Q tm σ|none=>False)
  |none=>False)
 |.act qs x r,σ,res,pd,Q=>(match yU dI bV qs σ res pd with
  |some (σ,res,pd)=>pd.all (again σ)=true/\(match Og dI bV res x.us x.os with
   |some tm=>wpG E x.o tm σ λv σ'=>XK E pt dI bV r σ' (⟨x.i,x.o.dst,v⟩::res) (pd.filter λp=>!((pt.getD x.i []).contains p.i)) Q
   |none=>False)
  |none=>False)
def XL{pt:List (List Nat)}{dI bV:Tr V}:∀{d:Dr}{σ:St}{res:List Rs}{pd:List iW}{Q:Tr V->St->Prop},XK E pt dI bV d σ res pd Q->∃n tm' σ',Dt (jd E n) pt dI bV d σ res pd=some (tm',σ')/\Q tm' σ'
 |.fin qs,σ,res,pd,Q,h=>by
  unfold XK at h;split at h
  .next σ1 res1 pd1 e=>
   obtain⟨h1,h2⟩:=h;split at h2
   .next tm e2=>exact⟨0,tm,σ1,by grind[Dt],h2⟩
   grind
  grind
 |.act qs x r,σ,res,pd,Q,h=>by
  unfold XK at h;split at h
  .next σ1 res1 pd1 e=>
   obtain⟨h1,h2⟩:=h;split at h2
   .next tm e2=>
    obtain⟨n,v,σ2,h3,h4⟩:=XJ h2;obtain⟨m,tm',σ',h5,h6⟩:=XL h4;refine⟨n+m,tm',σ',?_,h6⟩;unfold Dt;rw[e];dsimp only;rw[h1,e2];simp only[ck];rw[IE (oD jb) h3];exact U5 (oD jb) h5
   .exact h2.elim
  .exact h.elim
def aeV{d:Dr}{pt:List (List Nat)}{ds:List Nat}(bV:Tr V)(he:BJ tm ds=some bV)(h:XK E pt tm bV d σ [] [] λtm' σ'=>Q .normal tm' σ'):bM E (.drawn d pt ds) tm σ Q:=by obtain⟨n,tm',σ',h1,h2⟩:=XL h;exact⟨n+1,.normal,tm',σ',by rw[exec];unfold xDr;rw[he];dsimp only;rw[h1];rfl,h2⟩
def ahJ:List V->Nat->Tr V->Tr V
 |[],_,t=>t
 |v::r,i,t=>ahJ r (i+1) (t.set i (some v))
def ini(args:List V):Tr V:=ahJ args 0 .leaf
def OG:∀(args:List V) (i:Nat) (t:Tr V),Ip args i t=some (ahJ args i t)
 |[],_,_=>rfl
 |v::r,i,t=>by unfold Ip;show Ip r (i+1) (t.set i (some v))=_;rw[OG r (i+1)];rfl
theorem XM:∀(args:List V) (i:Nat) (t:Tr V) (j:Nat),(ahJ args i t).get j=if i<=j/\j<i+args.length then args[j-i]? else t.get j
 |[],i,t,j=>by rw[ab kc];rfl
 |v::r,i,t,j=>by
  show(ahJ r (i+1) (t.set i (some v))).get j=_;rw[XM r (i+1)];simp only[bL];by_cases h:i+1<=j/\j<i+1+r.length
  .rw[ae h,ae jb,show j-i=(j-(i+1))+1 by omega,List.getElem?_cons_succ]
  .rw[ab h,Tr.vg];by_cases h2:j=i
   .subst h2;rw[ae rfl,ae jb,Nat.sub_self];rfl
   .rw[ab h2,ab jb]
theorem BL(args:List V)(j:Nat):(ini args).get j=args[j]?:=by grind[ini,XM,Tr.N9]
theorem aaM(args:List V):Ip args 0 .leaf=some (ini args):=OG args 0 .leaf
def aaN(res:List (Nat×Option (Nat×Bool)))(K:V->St->Prop):AX->Tr V->St->Prop
 |.exit _,_,_=>False
 |_,tm,σ=>∃v,result tm σ res=some v/\K v σ
def aO{f:Nat}{args:List V}{F:AF}{K:V->St->Prop}(ho:E.Xn f args σ=none)(hF:E.fns f=some F)(h:bM E F.body (ini args) σ (aaN F.res K)):aC E f args σ K:=by
 obtain⟨n,e,tm',σ',h1,h2⟩:=h;cases e with
 |exit i=>exact h2.elim
 |normal=>
  obtain⟨v,h3,h4⟩:=h2
  exact⟨n+1,v,σ',by grind[jd,Iq,aaM,aeG],h4⟩
 |ret=>
  obtain⟨v,h3,h4⟩:=h2
  exact⟨n+1,v,σ',by grind[jd,Iq,aaM,aeG],h4⟩
def XO{f:Nat}{args:List V}{v:V}{σ':St}{K:V->St->Prop}(ho:E.Xn f args σ=some (v,σ'))(h:K v σ'):aC E f args σ K:=
 ⟨1,v,σ',by grind[jd,Iq],h⟩
end
end Go.Proofs.Xe
namespace Go.Proofs.Ins
def IG(p q:Rat):Rat:=if q=0 then 0 else p/q
def okR(q:Rat):Bool:=!decide (q=0)
def JM(p q:Rat):Rat:=if pI p q<=0 then p else q
def vY(p q:Rat):Rat:=if 0<=pI p q then p else q
def amt(x:Nat):Rat:=if x%5=0 then(((x/5%23:Nat):Int):Rat)/(((1+x/115%6:Nat):Int):Rat)else if x%5=1 then(((10*(x/5%4):Nat):Int):Rat)else(((x/5%13:Nat):Int):Rat)
def acN{x:Nat}(h:x%5=0):amt x=(((x/5%23:Nat):Int):Rat)/(((1+x/115%6:Nat):Int):Rat):=by unfold amt;rw[ae h]
def ahK{x:Nat}(h:x%5=1):amt x=(((10*(x/5%4):Nat):Int):Rat):=by unfold amt;rw[ab jb,ae h]
def XP{x:Nat}(h:¬x%5=0)(h1:¬x%5=1):amt x=(((x/5%13:Nat):Int):Rat):=by unfold amt;rw[ab h,ab h1]
def OH(i j:Int)(hj:0<j):fr (!(decide (i<0)==decide (j<0))) i.natAbs j.natAbs=(i:Rat)/(j:Rat):=by
 have hj0:(j:Rat)≠0:=by
  intro e;have:j=0:=by exact_mod_cast e
  omega
 rw[aam hj0];have e1:rn (i:Rat)=decide (i<0):=rfl;have e2:rn (j:Rat)=decide (j<0):=rfl;have e3:nm (i:Rat)=i.natAbs:=rfl;have e4:nm (j:Rat)=j.natAbs:=rfl;have e5:(i:Rat).den=1:=rfl;have e6:(j:Rat).den=1:=rfl;rw[e1,e2,e3,e4,e5,e6,fv,Nat.one_mul];rfl
def aaO(n:Bool)(s d:ByteArray):Sm (s.size+d.size+1) (rq n s d):=avo jb jb jb
def ars(i:Int):fr (decide (i<0)) i.natAbs 1=(i:Rat):=by unfold fr;rw[Dj];exact(Rat.mkRat_self (i:Rat))
def adX(p q:Rat):Nat:=if rd p=rd q then nm p else nm p*q.den
def adY(p q:Rat):Nat:=if rd p=rd q then nm q else nm q*p.den
def adD(p q:Rat):Nat:=if rd p=rd q then p.den else p.den*q.den
def aeW{p q:Rat}(h:rd p=rd q):p.den=q.den:=by rw[<-acz p,<-acz q,h]
def aru(p q:Rat):p+q=mkRat (wZ (rn p) (adX p q)+wZ (rn q) (adY p q)) (adD p q):=by
 unfold adX adY adD;by_cases h:rd p=rd q
 .rw[ae h,ae h,ae h];exact Xk (aeW h)
 .rw[ab h,ab h,ab h];exact aan p q
end Go.Proofs.Ins
end
