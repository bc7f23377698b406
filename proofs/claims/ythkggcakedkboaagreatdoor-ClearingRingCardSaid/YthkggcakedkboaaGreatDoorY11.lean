import Derived.Test.YthkggcakedkboaaGreatDoorY10
import Derived.Attr
set_option linter.all false
noncomputable section
namespace Go.Proofs.Xe
open Go.RowKit Go.Proofs.Ins
section
variable {E:Env}
theorem ajM{n:Nat}{op:uf}{tm:Tr V}{σ σ':St}{v:V}{K:V->St->Prop}(h:nP (iJ E n) op tm σ=some (v,σ'))(hk:K v σ'):wpOp E op tm σ K:=by
 unfold wpOp;split
 .next g args=>
  unfold nP at h;simp only[uf.kind]at h;split at h
  .next f a e=>
   unfold ZP at e;cases hg:g.ev tm with
   |fn f' caps=>
    dsimp only at e
    rw[hg]at e
    obtain⟨rfl,rfl⟩:=Prod.mk.inj (dT e)
    exact⟨n,v,σ',h,hk⟩
   |_=>grind
  .cases h
 .next hne=>
  have e:nP (λ_ _ _=>none) op tm σ=nP (iJ E n) op tm σ:=by
   unfold nP;cases hk2:op.kind with
   |c=>cases op<;>simp only[uf.kind,reduceCtorEq]at hk2;grind
   |_=>rfl
  grind
def afc{n:Nat}{o:AO}{tm:Tr V}{σ σ':St}{v:V}{K:V->St->Prop}(h:stepG (iJ E n) o tm σ=some (v,σ'))(hk:K v σ'):wpG E o tm σ K:=by grind[wpG,stepG,ajM]
theorem UZ{n:Nat}:∀{l:List AO}{tm tm':Tr V}{σ σ':St}{Q:Tr V->St->Prop},qL (iJ E n) l tm σ=some (tm',σ')->Q tm' σ'->wpOps E l tm σ Q
 |[],_,_,_,_,_,h,hq=>by cases h;exact hq
 |o::l,tm,tm',σ,σ',Q,h,hq=>by
  unfold qL at h;split at h
  .next v σ1 e=>
   rw[Js]at h;exact afc e (UZ h hq)
  .cases h
theorem afd{n:Nat}{pt:List (List Nat)}{cO bH:Tr V}:∀{d:Dr}{σ σ':St}{res:List Rs}{pd:List iF}{tm':Tr V}{Q:Tr V->St->Prop},AA (iJ E n) pt cO bH d σ res pd=some (tm',σ')->Q tm' σ'->UJ E pt cO bH d σ res pd Q
 |.fin qs,σ,σ',res,pd,tm',Q,h,hq=>by grind[Go.Proofs.Xe.AA,Go.Proofs.Xe.UJ]
 |.act qs x r,σ,σ',res,pd,tm',Q,h,hq=>by
  unfold AA at h;unfold UJ;split at h
  .next σ1 res1 pd1 e=>
   rw[e];dsimp only;cases hb:pd1.all (again σ1)with
   |false=>rw[hb]at h;cases h
   |true=>
    rw[hb]at h
    simp only[cg]at h
    refine⟨rfl,?_⟩
    split at h
    .next Uz e2=>
     rw[e2]
     dsimp only
     split at h
     .next v σ2 e3=>exact afc e3 (afd h hq)
     .cases h
    .cases h
  .cases h
end
section
variable (E:Env) (tm:Tr V) (σ:St) (Q:AX→Tr V→St→Prop)
def aol(l:List AO):bK E (.ops l) tm σ Q=wpOps E l tm σ λtm' σ'=>Q .normal tm' σ':=by
 refine propext ⟨?_,ajc⟩;rintro⟨n,e,tm',σ',h,hq⟩;cases n with
 |zero=>grind[exec]
 |succ n=>
  simp only[exec,Uk]at h
  grind[UZ]
def arM(d:Dr)(pt:List (List Nat))(ds:List Nat):bK E (.drawn d pt ds) tm σ Q=UJ E pt tm (X6 tm ds) d σ [] [] λtm' σ'=>Q .normal tm' σ':=by
 refine propext ⟨?_,aok⟩;rintro⟨n,e,tm',σ',h,hq⟩;cases n with
 |zero=>grind[exec]
 |succ n=>
  simp only[exec,xDr,Uk,Ht]at h
  grind[afd]
def seq_eq(a b:AC):bK E (.seq a b) tm σ Q=bK E a tm σ (QN E b Q):=by
 refine propext ⟨?_,run_seq⟩;rintro⟨n,e,tm',σ',h,hq⟩;cases n with
 |zero=>grind[exec]
 |succ n=>
  rw[exec]at h
  cases hx:exec E n a tm σ with
  |none=>rw[hx]at h;cases h
  |some q=>
   rw[hx]at h
   obtain⟨e1,Hl,σ1⟩:=q
   refine⟨n,e1,Hl,σ1,hx,?_⟩
   cases e1 with
   |normal=>exact⟨n,e,tm',σ',h,hq⟩
   |exit i=>cases h;exact hq
   |ret=>cases h;exact hq
def afe(i:Nat)(a:AC):bK E (.block i a) tm σ Q=bK E a tm σ (aeD i Q):=by
 refine propext ⟨?_,CP⟩;rintro⟨n,e,tm',σ',h,hq⟩;cases n with
 |zero=>grind[exec]
 |succ n=>
  rw[exec]at h
  cases hx:exec E n a tm σ with
  |none=>rw[hx]at h;cases h
  |some q=>
   rw[hx]at h
   obtain⟨e1,Hl,σ1⟩:=q
   refine⟨n,e1,Hl,σ1,hx,?_⟩
   cases e1 with
   |normal=>cases h;exact hq
   |exit j=>cases h;exact hq
   |ret=>cases h;exact hq
def ajN:bK E .skip tm σ Q=Q .normal tm σ:=by
 refine propext ⟨?_,UG⟩;rintro⟨n,e,tm',σ',h,hq⟩;cases n with
 |zero=>grind[exec]
 |succ n=>grind[exec]
def ajO(i:Nat):bK E (.exit i) tm σ Q=Q (.exit i) tm σ:=by
 refine propext ⟨?_,aeB⟩;rintro⟨n,e,tm',σ',h,hq⟩;cases n with
 |zero=>grind[exec]
 |succ n=>grind[exec]
def aom:bK E .ret tm σ Q=Q .ret tm σ:=by
 refine propext ⟨?_,aja⟩;rintro⟨n,e,tm',σ',h,hq⟩;cases n with
 |zero=>grind[exec]
 |succ n=>grind[exec]
def ifV(v:V)(P:Bool->Prop):Prop:=match v with|.c (.bool t)=>P t|_=>False
def ajP(x:O)(a b:AC):bK E (.cond x a b) tm σ Q=ifV (x.ev tm) λt=>bK E (bif t then a else b) tm σ Q:=by
 refine propext ⟨?_,λh=>?_⟩
 .rintro⟨n,e,tm',σ',h,hq⟩;cases n with
  |zero=>grind[exec]
  |succ n=>
   simp only[exec,ZR]at h
   split at h
   .next t e=>rw[e];exact⟨n,_,_,_,h,hq⟩
   .cases h
 .unfold ifV at h;grind[aeC]
def aon(a b:AC):bK E (bif true then a else b) tm σ Q=bK E a tm σ Q:=rfl
def aoo(a b:AC):bK E (bif false then a else b) tm σ Q=bK E b tm σ Q:=rfl
def ajQ(a b:AC):bK E (bif !true then a else b) tm σ Q=bK E b tm σ Q:=rfl
def ajR(a b:AC):bK E (bif !false then a else b) tm σ Q=bK E a tm σ Q:=rfl
def aff(n:Nat)(b:AC)(r:List (Nat×Option (Nat×Bool))):bK E (AF.body ⟨n,b,r⟩) tm σ Q=bK E b tm σ Q:=rfl
def afg(P:Bool->Prop):ifV (.c (.bool true)) P=P true:=rfl
def acj(P:Bool->Prop):ifV (.c (.bool false)) P=P false:=rfl
def ajS(b:Bool)(P:Bool->Prop):ifV (.c (.bool (!b))) P=ifV (.c (.bool b)) λt=>P (!t):=rfl
def aJ{p:Prop}[Decidable p]{P:Bool->Prop}(h1:p->P true)(h2:¬p->P false):ifV (.c (.bool (decide p))) P:=by
 show P (decide p);by_cases h:p
 .grind
 grind
def arN{b:Bool}{P:Bool->Prop}(h1:b=true->P true)(h2:b=false->P false):ifV (.c (.bool b)) P:=by
 show P b;cases b with
 |true=>grind
 |false=>grind
def tick:Prop:=∀n:Nat,n=n
def acn:tick=True:=propext ⟨λ_=>trivial,λ_ _=>rfl⟩
@[congr] theorem aqE {z:Prop} {v v' : V} {P:Bool→Prop} (hz:tick=z) (h:v=v'):ifV v P=ifV v' P:=by rw [h]
@[congr] theorem aqF {z:Prop} {v v' : Option V} {P:V→Prop} (hz:tick=z) (h:v=v'):EF v P=EF v' P:=by rw [h]
@[congr] theorem aop {z:Prop} {c:AC} {tm tm' : Tr V} {σ σ' : St} {Q:AX→Tr V→St→Prop} (hz:tick=z) (h:tm=tm') (h2:σ=σ'):bK E c tm σ Q=bK E c tm' σ' Q:=by rw [h,h2]
@[congr] theorem amm {z:Prop} {c:List AO} {tm tm' : Tr V} {σ σ' : St} {Q:Tr V→St→Prop} (hz:tick=z) (h:tm=tm') (h2:σ=σ'):wpOps E c tm σ Q=wpOps E c tm' σ' Q:=by rw [h,h2]
@[congr] theorem aqG {z:Prop} {c:AO} {tm tm' : Tr V} {σ σ' : St} {Q:V→St→Prop} (hz:tick=z) (h:tm=tm') (h2:σ=σ'):wpG E c tm σ Q=wpG E c tm' σ' Q:=by rw [h,h2]
@[congr] theorem aoq {z:Prop} {c:uf} {tm tm' : Tr V} {σ σ' : St} {Q:V→St→Prop} (hz:tick=z) (h:tm=tm') (h2:σ=σ'):wpOp E c tm σ Q=wpOp E c tm' σ' Q:=by rw [h,h2]
@[congr] theorem amn {z:Prop} {f:Nat} {a a' : List V} {σ σ' : St} {Q:V→St→Prop} (hz:tick=z) (h:a=a') (h2:σ=σ'):aC E f a σ Q=aC E f a' σ' Q:=by rw [h,h2]
@[congr] theorem aqH {z:Prop} {cO bH:Tr V} {qs:List DO} {σ σ' : St} {res res' : List Rs} {pd pd' : List iF} {K:St→List Rs→List iF→Prop} (hz:tick=z) (h2:σ=σ') (h3:res=res') (h4:pd=pd'):sO cO bH qs σ res pd K=sO cO bH qs σ' res' pd' K:=by grind
@[congr] theorem aqI {z:Prop} {pt:List (List Nat)} {cO bH:Tr V} {d:Dr} {σ σ' : St} {res res' : List Rs} {pd pd' : List iF} {K:Tr V→St→Prop} (hz:tick=z) (h2:σ=σ') (h3:res=res') (h4:pd=pd'):UJ E pt cO bH d σ res pd K=UJ E pt cO bH d σ' res' pd' K:=by grind
@[congr] theorem aqJ {z:Prop} {σ σ' : St} {pd pd' : List iF} (hz:tick=z) (h:σ=σ') (h2:pd=pd'):agn σ pd=agn σ' pd':=by rw [h,h2]
@[congr] theorem aor {z:Prop} {i i' : Nat} {o:AO} {tm:Tr V} {v:V} {g:Bool} {nm:Option Nat} (hz:tick=z) (h:i=i'):iF.mk i o tm v g nm=iF.mk i' o tm v g nm:=by rw [h]
@[congr] theorem amo {z:Prop} {σ σ' : St} {p:iF} (hz:tick=z) (h:σ=σ'):again σ p=again σ' p:=by rw [h]
@[congr] theorem aqK {z:Prop} {cO bH:Tr V} {res:List Rs} {us us' os:List Nat} (hz:tick=z) (h:us=us'):KF cO bH res us os=KF cO bH res us' os:=by rw [h]
@[congr] theorem aot {z:Prop} {bH:Tr V} {res:List Rs} {us us' : List Nat} (hz:tick=z) (h:us=us'):GY bH res us=GY bH res us':=by rw [h]
@[congr] theorem aqL {z:Prop} {res:List Rs} {u u' : Nat} (hz:tick=z) (h:u=u'):fnd res u=fnd res u':=by rw [h]
@[congr] theorem amq {z:Prop} {cO tm:Tr V} {os os' : List Nat} (hz:tick=z) (h:os=os'):DV cO tm os=DV cO tm os':=by rw [h]
@[congr] theorem aou {z:Prop} {g:Option (Nat×Bool)} {tm:Tr V} {A B:Prop} (hz:tick=z):Ac g tm A B=Ac g tm A B:=rfl
@[congr] theorem aqM {z:Prop} {v v' : V} {b:Bool} {A B:Prop} (hz:tick=z) (h:v=v'):gsV v b A B=gsV v' b A B:=by rw [h]
@[congr] theorem arO {z:Prop} {g:Option (Nat×Bool)} {cO bH:Tr V} {res:List Rs} {us os:List Nat} {σ:St} {pd:List iF} {i:Nat} {d:Option Nat} {op:uf} {l:List DO} {K:St→List Rs→List iF→Prop} (hz:tick=z):qR g cO bH res us os σ pd i d op l K=qR g cO bH res us os σ pd i d op l K:=rfl
def ajT(E:Env)(d:Option Nat)(g:Option (Nat×Bool))(op:uf)(tm:Tr V)(σ:St)(K:V->St->Prop):wpG E ⟨d,g,op⟩ tm σ K=Ac g tm (wpOp E op tm σ K) (K .tnil σ):=rfl
def aov(x:O)(K:V->St->Prop):wpOp E (.mov x) tm σ K=EF (some (x.ev tm)) λv=>K v σ:=rfl
def aow(b:AC):QN E b Q .normal tm σ=bK E b tm σ Q:=rfl
def aox(b:AC)(i:Nat):QN E b Q (.exit i) tm σ=Q (.exit i) tm σ:=rfl
def aoy(b:AC):QN E b Q .ret tm σ=Q .ret tm σ:=rfl
def aoz(i:Nat):aeD i Q .normal tm σ=Q .normal tm σ:=rfl
def aoA(i j:Nat):aeD i Q (.exit j) tm σ=Q (bif Nat.beq j i then .normal else .exit j) tm σ:=rfl
def aoB(i:Nat):aeD i Q .ret tm σ=Q .ret tm σ:=rfl
variable (I:Nat→Tr V→St→Prop) (m:Nat) (res:List (Nat×Option (Nat×Bool))) (K:V→St→Prop)
def aoC:ajb I m Q .normal tm σ=∃m',m'<m/\I m' tm σ:=rfl
def aoD(i:Nat):ajb I m Q (.exit i) tm σ=Q (.exit i) tm σ:=rfl
def aoE:ajb I m Q .ret tm σ=Q .ret tm σ:=rfl
def ajU:X0 res K .normal tm σ=EF (result tm σ res) λv=>K v σ:=by unfold X0 EF;grind
def aoF:X0 res K .ret tm σ=EF (result tm σ res) λv=>K v σ:=by unfold X0 EF;grind
end
def aoG(p q:Rat):decide (oJ p q<0)=decide (p<q):=by
 by_cases h:p<q
 .rw[bj h,bj];exact oP.mpr h
 .rw[aw h,aw];exact λe=>h (oP.mp e)
def afh(tm:Tr V)(d:Nat)(v:V):Tr.get (Du tm (some d) v) d=some v:=by grind[Du,Tr.rJ]
def aoH(tm:Tr V)(d j:Nat)(v:V)(h:j≠d):Tr.get (Du tm (some d) v) j=Tr.get tm j:=by grind[Du,Tr.rJ]
def Ya(tm:Tr V)(σ:St):nV tm σ []=some .tnil:=rfl
def afi(tm:Tr V)(σ:St)(t:Nat)(r:List (Nat×Option (Nat×Bool))):nV tm σ ((t,none)::r)=match tm.get t,nV tm σ r with|some v,some w=>some (.aV v w)|_,_=>none:=rfl
def afj(tm:Tr V)(σ:St)(t n:Nat)(g:Bool)(r:List (Nat×Option (Nat×Bool))):nV tm σ ((t,some (n,g))::r)=match(match tm.ah t with|.c (.ptr b o)=>ld σ.h b o n g|_=>none),nV tm σ r with|some v,some w=>some (.aV v w)|_,_=>none:=rfl
def Fr.new1{σ:St}{h:Tr Bk}{n:Nat}{k:Bk}(hf:Fr σ ⟨h,n⟩):Fr σ ⟨hset h n k,n+1⟩:=Fr.new hf k
def Fr.set1{σ:St}{h:Tr Bk}{n b:Nat}{k:Bk}(hf:Fr σ ⟨h,n⟩)(h1:σ.aj<=b)(h2:b<n):Fr σ ⟨hset h b k,n⟩:=Fr.set hf h1 h2 k
def ak{h:Tr Bk}{b:Nat}{k:Bk}(e:h b=some k)(o n:Nat)(g:Bool):ld h b o n g=bif k.rd then Au k.cells o n g else none:=by unfold ld;rw[e]
def aI{h:Tr Bk}{b:Nat}{k:Bk}(e:h b=some k)(o:Nat)(vs:List B):sto h b o vs=match bif k.pl then yc k.cells o vs else none with|some l=>some (hset h b ⟨l,k.opn⟩)|none=>none:=by grind[sto]
def plo(o:Option (Nat×Nat)):Bool:=match o with|some (0,_)=>false|_=>true
def Xh(o:Option (Nat×Nat)):Bool:=match o with|some (0,t)=>Nat.beq t 1|_=>true
def aoI(k:Bk):k.pl=plo k.opn:=rfl
def Ls(k:Bk):k.rd=Xh k.opn:=rfl
def afk:plo none=true:=rfl
def afl:Xh none=true:=rfl
def amr(e t:Nat)(h:e≠0):plo (some (e,t))=true:=by cases e with|zero=>omega|succ e=>rfl
def DZ(e t:Nat)(h:e≠0):Xh (some (e,t))=true:=by cases e with|zero=>omega|succ e=>rfl
def arP:Xh (some (0,1))=true:=rfl
def afm(k:IntKind)(n:Int):B.kn (.int k n)=true:=rfl
theorem Jt(b:Bool):B.kn (.bool b)=true:=rfl
theorem QT(s:ByteArray):B.kn (.str s)=true:=rfl
def aoJ(b o:Nat):B.kn (.ptr b o)=true:=rfl
def ajV:B.kn .Qy=true:=rfl
def arQ(b o n:Nat)(c:Cap):B.kn (.sl b o n c)=true:=rfl
def ajW:B.kn .bg=true:=rfl
def arR(b:Nat):B.kn (.mp b)=true:=rfl
def HL.kn{h:Tr Bk}{e:Nat}{v:B}{n:Nat}{G:Nat->List B}(hl:HL h e v n G):v.kn=true:=by rcases hl with⟨-,rfl⟩|⟨b,o,c,rfl,-⟩<;>rfl
def HC.kn{h:Tr Bk}{v:B}{n:Nat}{G:Nat->B}(hl:HC h v n G):v.kn=true:=by rcases hl with⟨-,rfl⟩|⟨b,o,c,rfl,-⟩<;>rfl
def arS(x:B)(l:List B)(o n:Nat):Au (x::l) o n true=bif Nat.beq (((x::l).drop o).take n).length n&&(((x::l).drop o).take n).all B.kn then some (.agg (((x::l).drop o).take n))else none:=rfl
def arT(x:B)(l:List B)(o n:Nat):Au (x::l) o n false=match(x::l).drop o with|x::_=>bif x.kn then some (.c x)else none|[]=>none:=rfl
def arU(x:B)(l vs:List B):yc (x::l) 0 vs=bif Nat.ble vs.length (x::l).length then some (vs++(x::l).drop vs.length)else none:=by rw[yc]
def arV(x:B)(l:List B)(o:Nat)(vs:List B):yc (x::l) (o+1) vs=match yc l o vs with|some r=>some (x::r)|none=>none:=by rfl
def afn(a b:Nat):(Int.ofNat a=Int.ofNat b)=(a=b):=propext ⟨Int.ofNat.inj,λe=>by rw[e]⟩
def eq_neg(a b:Nat):(Int.ofNat a=Int.negSucc b)=False:=by simp
def arW[h:Decidable True]: @decide True h=true:=by simp
def arX[h:Decidable False]: @decide False h=false:=by simp
attribute [go_sem] acn ajQ ajR aon aoo aff ab9 wpOps_cons aeO anM o_load ajj ajk ajl anN ars anO anP anQ anR aru arv arw arx arz arA arB anS anT arC arD ajm ajn anU arF arE arG ajo Az anV XI arH aji ab8 anW ajp arI anX IK rep arJ ajq anY auA auB abZ ajg ab1 ab2 ab3 ab4 ab5 ab6 V.cells ajh arq aeM anL aB auC auD dp fv Bool.and_true Bool.true_and List.drop_succ_cons gc fo cE bL List.length_nil Nat.reduceAdd cK cB aeN Lr uj DY au dc List.nil_append gi List.map_cons List.map_nil result aeL aH ajx ajy ajt an6 ajB ajD aeY ae0 ae2 an8 aoa aoc ae4 ae6 aoe aog ajE ae8 ajG aoi afa ajI ajK acg aju ajv anZ aeR acd aeS ajr aeT ace X7 aeU acf aeQ ajw aeV an7 ajC aeZ ae1 ae3 an9 aob aod ae5 ae7 aof aoh ajF ae9 ajH aoj afb ajJ ajL X9 UY aci ajz arK X8 ach List.contains_cons List.contains_nil Nat.reduceBEq Bool.or_false Bool.or_true Bool.false_or Bool.true_or cg eN List.getD_cons_zero List.getD_cons_succ ap and_true ajT an0 an1 an2 an3 an4 an5 ajs arL ajA aov aol arM seq_eq afe ajN ajO aom ajP afg acj ajS aow aox aoy aoz aoA aoB aoC aoD aoE ajU aoF aoG afm Jt QT aoJ ajV arQ ajW arR arS arT arU arV afn eq_neg arW arX aoI Ls afk afl amr DZ arP afh aoH Ya afi afj arn X4 X5 aeK abY aro arp anH aeJ ark anG aeI abX UQ anE UN anF UO abW arl aje Z4 anI UU anJ anK ajf UR
def dF:Nat->(Nat->List B)->List B
 |0,_=>[]
 |n+1,G=>G 0++dF n λi=>G (i+1)
def U2{e:Nat}:∀{n:Nat}{G:Nat->List B}{i:Nat},(∀j,(G j).length=e)->i<n->∃r,(dF n G).drop (i*e)=G i++r
 |0,_,_,_,h=>jb
 |n+1,G,0,_,_=>⟨dF n λi=>G (i+1),by rw[Nat.zero_mul];rfl⟩
 |n+1,G,i+1,hG,h=>by obtain⟨r,hr⟩:=U2 (G:=λi=>G (i+1)) (i:=i) (λj=>hG (j+1)) (by omega:i<n);refine⟨r,?_⟩;show(G 0++dF n λi=>G (i+1)).drop _=_;rw[ck,fa,<-hG 0,List.drop_length_add_append,hG 0];exact hr
def yV{e n i k m:Nat}{G:Nat->List B}(g:Bool)(hG:∀j,(G j).length=e)(h:i<n)(hk:k+m<=e)(hm:0<m):Au (dF n G) (i*e+k) m g=Au (G i) k m g:=by
 obtain⟨r,hr⟩:=U2 hG h;have hd:(dF n G).drop (i*e+k)=(G i).drop k++r:=by rw[<-List.drop_drop,hr,List.drop_append_of_le_length kd]
 have hl:((G i).drop k).length=e-k:=by grind
 unfold Au;grind
def afo:∀(p:List B) (l:List B) (o:Nat) (vs:List B),yc (p++l) (p.length+o) vs=match yc l o vs with|some r=>some (p++r)|none=>none
 |[],l,o,vs=>by grind
 |x::p,l,o,vs=>by rw[gi,bL,show p.length+1+o=(p.length+o)+1 by omega,yc,afo p l o vs];cases yc l o vs<;>rfl
def Z8:∀(p:List B) (l:List B) (o:Nat) (vs:List B),o+vs.length<=p.length->yc (p++l) o vs=match yc p o vs with|some r=>some (r++l)|none=>none
 |p,l,0,vs,h=>by grind[yc,uj]
 |[],l,o+1,vs,h=>by simp at h
 |x::p,l,o+1,vs,h=>by rw[gi,yc,yc,Z8 p l o vs (by simp only[bL]at h;omega)];cases yc p o vs<;>rfl
def kJ(G:Nat->List B)(i:Nat)(r:List B):Nat->List B:=λj=>if j=i then r else G j
def Ef{e k:Nat}{vs:List B}:∀{n i:Nat}{G:Nat->List B},(∀j,(G j).length=e)->i<n->k+vs.length<=e->yc (dF n G) (i*e+k) vs=match yc (G i) k vs with|some r=>some (dF n (kJ G i r))|none=>none
 |0,_,_,_,h,_=>jb
 |n+1,0,G,hG,_,hk=>by rw[Nat.zero_mul,cK];show yc (G 0++_) k vs=_;rw[Z8 _ _ _ _ kd];rfl
 |n+1,i+1,G,hG,h,hk=>by
  show yc (G 0++dF n λi=>G (i+1)) _ vs=_;rw[show(i+1)*e+k=(G 0).length+(i*e+k) by rw[hG,ck];omega,afo,Ef (λj=>hG (j+1)) jb hk];cases yc (G (i+1)) k vs with
  |none=>rfl
  |some r=>
   show some _=some _
   congr 1
   show G 0++_=kJ G (i+1) r 0++_
   congr 2
   funext j
   unfold kJ
   simp only[Nat.add_right_cancel_iff]
theorem dO:∀{n:Nat}{G H:Nat->List B},(∀i,i<n->G i=H i)->dF n G=dF n H
 |0,_,_,_=>rfl
 |n+1,G,H,h=>by unfold dF;rw[h 0 jb,dO λi hi=>h (i+1) jb]
def Ju(z:List B):∀n,rep z n=dF n λ_=>z
 |0=>rfl
 |n+1=>by unfold rep dF;rw[Ju z n]
theorem vM:∀(n:Nat) (G:Nat->List B) (r:List B),dF n G++r=dF (n+1) (kJ G n r)
 |0,G,r=>by grind[dF,kJ]
 |n+1,G,r=>by rw[dF,gN,vM n _ r];show _=kJ G (n+1) r 0++dF (n+1) _;congr 2;funext j;unfold kJ;simp only[Nat.add_right_cancel_iff]
def wV{e:Nat}:∀{n:Nat}{G:Nat->List B},(∀j,(G j).length=e)->(dF n G).length=n*e
 |0,_,_=>by simp[dF]
 |n+1,G,h=>by rw[dF,aR,h,wV λj=>h (j+1),ck];omega
def Ba{h:Tr Bk}{b o n:Nat}{cs:List B}(e:ld h b o n true=some (.agg cs))(k m:Nat)(g:Bool)(hk:k+m<=n)(hm:0<m):ld h b (o+k) m g=Au cs k m g:=by
 unfold ld at e⊢;cases hb:h b with
 |none=>grind
 |some bk=>
  rw[hb]at e
  dsimp only at e⊢
  cases hr:bk.rd with
  |false=>grind
  |true=>
   rw[hr]at e
   simp only[cg]at e⊢
   unfold Au at e
   dsimp only at e
   cases hx:(Nat.beq ((bk.cells.drop o).take n).length n&&((bk.cells.drop o).take n).all B.kn)with
   |false=>grind
   |true=>
    rw[hx]at e
    cases e
    rw[af]at hx
    have hl:=am hx.1
    rw[cW]at hl
    unfold Au
    cases g with
    |true=>
     grind[List.drop_take,List.drop_drop]
    |false=>
     dsimp only
     rw[List.drop_take,List.drop_drop]
     have hd:n-k=(n-k-1)+1:=jb
     grind
def yX{h:Tr Bk}{b o n:Nat}{cs:List B}(e:ld h b o n true=some (.agg cs))(m:Nat)(g:Bool)(hk:m<=n)(hm:0<m):ld h b o m g=Au cs 0 m g:=Ba e 0 m g jb hm
def gK(q:Rat):List B:=[.bool (rn q),.str (rs q),.str (rd q)]
def bU(n:Nat)(f:Nat->Rat):List B:=dF n λi=>gK (f i)
def aT{α:Type}(f:Nat->α)(i:Nat)(q:α):Nat->α:=λj=>if j=i then q else f j
def QU(n:Nat)(f:Nat->Rat)(i:Nat)(h:i<n):Au (bU n f) (i*3) 3 true=some (.agg [.bool (rn (f i)),.str (rs (f i)),.str (rd (f i))]):=by unfold bU;have:=yV (e:=3) (k:=0) (m:=3) (G:=λi=>gK (f i)) true (λ_=>rfl) h jj jj;rw[cB]at this;rw[this];rfl
def ajX(n:Nat)(f:Nat->Rat)(i:Nat)(q:Rat)(h:i<n):yc (bU n f) (i*3) [.bool (rn q),.str (rs q),.str (rd q)]=some (bU n (aT f i q)):=by unfold bU;have:=Ef (e:=3) (k:=0) (vs:=gK q) (G:=λi=>gK (f i)) (λ_=>rfl) h (cI 3);rw[cB]at this;show yc _ _ (gK q)=_;rw[this];show some _=some _;congr 2;funext j;unfold kJ aT;split<;>rfl
theorem dI{n:Nat}{f g:Nat->Rat}(h:∀i,i<n->f i=g i):bU n f=bU n g:=dO λi hi=>by grind
def afp(n:Nat):rep [.bool (rn 0),.str (rs 0),.str (rd 0)] n=bU n λ_=>0:=Ju _ n
def aco(n:Nat)(f:Nat->Rat)(q:Rat):bU n f++[.bool (rn q),.str (rs q),.str (rd q)]=bU (n+1) (aT f n q):=by unfold bU;rw[show [B.bool (rn q),.str (rs q),.str (rd q)]=gK q from rfl,vM];congr 1;grind[kJ,aT]
theorem Lu(n:Nat)(f:Nat->Rat):(bU n f).length=n*3:=wV λ_=>rfl
def ones(n:Nat)(g:Nat->B):List B:=dF n λi=>[g i]
def Z9(n:Nat)(g:Nat->B)(i:Nat)(h:i<n):Au (ones n g) (i*1) 1 false=bif (g i).kn then some (.c (g i))else none:=by unfold ones;have:=yV (e:=1) (k:=0) (m:=1) (G:=λi=>[g i]) false (λ_=>rfl) h jj jj;rw[cB]at this;rw[this];rfl
def ajY(n:Nat)(g:Nat->B)(i:Nat)(x:B)(h:i<n):yc (ones n g) (i*1) [x]=some (ones n (aT g i x)):=by unfold ones;have:=Ef (e:=1) (k:=0) (vs:=[x]) (G:=λi=>[g i]) (λ_=>rfl) h (cI 1);rw[cB]at this;rw[this];show some _=some _;congr 2;grind[kJ,aT]
def dQ{n:Nat}{f g:Nat->B}(h:∀i,i<n->f i=g i):ones n f=ones n g:=dO λi hi=>by grind
def afq(x:B)(n:Nat):rep [x] n=ones n λ_=>x:=Ju _ n
theorem LC(n:Nat)(g:Nat->B):(ones n g).length=n*1:=wV λ_=>rfl
theorem aS{α:Type}(f:Nat->α)(i:Nat)(q:α):aT f i q i=q:=ae rfl
theorem aW{α:Type}(f:Nat->α)(i j:Nat)(q:α)(h:j≠i):aT f i q j=f j:=ab h
def QW:Option V->Nat->Option Nat
 |none,d=>some d
 |some v,_=>IK v
def afr(b:Option O)(tm:Tr V)(d:Nat):Ui b tm d=QW (b.map (·.ev tm)) d:=by cases b<;>rfl
def QX(fU:Nat)(x:V)(lo hi mx:Option V):Option V:=
 match x with
 |.c (.sl b o n c)=>
  match QW lo 0,QW hi n with
  |some l,some h=>bif Nat.ble l h&&Nat.ble h n then
    match mx with
    |none=>(match c with
     |.ex k=>bif Nat.blt l k then some (.c (.sl b (o+l*fU) (h-l) (.ex (k-l))))else some (.c (.sl b o 0 .any))
     |.opn=>bif Nat.beq l 0 then some (.c (.sl b o h .opn))else bif Nat.blt l n then some (.c (.sl b (o+l*fU) (h-l) .any))else some (.c (.sl b o 0 .any))
     |.any=>bif Nat.blt l n then some (.c (.sl b (o+l*fU) (h-l) .any))else some (.c (.sl b o 0 .any)))
    |some y=>match IK y with
     |some q=>bif Nat.ble h q&&Nat.ble q n then bif Nat.beq l 0 then some (.c (.sl b o h (bif Nat.beq n 0 then .any else .ex q)))else none else none
     |none=>none
   else none
  |_,_=>none
 |.c .bg=>match QW lo 0,QW hi 0 with
  |some 0,some 0=>(match mx with|none=>some (.c .bg)|some y=>match IK y with|some 0=>some (.c .bg)|_=>none)
  |_,_=>none
 |_=>none
def U3(fU:Nat)(x:O)(lo hi mx:Option O)(tm:Tr V):KD fU x lo hi mx tm=QX fU (x.ev tm) (lo.map (·.ev tm)) (hi.map (·.ev tm)) (mx.map (·.ev tm)):=by unfold KD QX;simp only[oU,afr];cases mx<;>rfl
def ajZ(E:Env)(tm:Tr V)(σ:St)(K:V->St->Prop)(fU:Nat)(x:O)(lo hi mx:Option O):wpOp E (.slice fU x lo hi mx) tm σ K=EF (QX fU (x.ev tm) (lo.map (·.ev tm)) (hi.map (·.ev tm)) (mx.map (·.ev tm))) λv=>K v σ:=by rw[gV _ _ _ _ (by rfl) λ_ _ h=>by cases h];show EF (KD fU x lo hi mx tm) _=_;rw[U3]
def aj0:B->Prop
 |.sl _ _ n (.ex k)=>n<=k
 |_=>True
def aoK{v:B}{n h:Nat}(hc:aj0 v)(hv:(n=0/\v=.bg)\/∃b o c,v=.sl b o n c/\0<n)(hh:h<=n)(fU:Nat):∃v',QX fU (.c v) none (some (.c (.int .i64 (.ofNat h)))) none=some (.c v')/\aj0 v'/\((n=0/\v'=.bg)\/∃b o c c',v=.sl b o n c/\v'=.sl b o h c'):=by
 rcases hv with⟨rfl,rfl⟩|⟨b,o,c,rfl,hn⟩
 .have:h=0:=jb;subst this;exact⟨.bg,rfl,trivial,.inl ⟨rfl,rfl⟩⟩
 .cases c with
  |ex k=>
   have hc:n<=k:=hc
   refine⟨.sl b o h (.ex k),?_,by show h<=k;omega,.inr ⟨b,o,_,_,rfl,rfl⟩⟩
   grind[QX,QW,IK,uj,DY]
  |opn=>
   refine⟨.sl b o h .opn,?_,trivial,.inr ⟨b,o,_,_,rfl,rfl⟩⟩
   grind[QX,QW,IK,uj,aeN]
  |any=>
   refine⟨.sl b o h .any,?_,trivial,.inr ⟨b,o,_,_,rfl,rfl⟩⟩
   grind[QX,QW,IK,uj,DY]
attribute [go_sem] ajZ Option.map_some Option.map_none
attribute [go_sem] QU ajX afp Z9 ajY afq
structure aP(ex:List Nat)(σ σ':St):Prop where
 le:σ.aj<=σ'.aj
 wf:WF σ'
 old:∀b,b<σ.aj->¬b∈ex->σ'.h b=σ.h b
def Fr.ex{σ σ':St}(h:Fr σ σ')(ex:List Nat):aP ex σ σ':=⟨h.le,h.wf,λb hb _=>h.old b hb⟩
theorem aP.refl{σ:St}{ex:List Nat}(h:WF σ):aP ex σ σ:=(Fr.refl h).ex ex
def aP.trans{ex:List Nat}{σ σ' KQ:St}(h:aP ex σ σ')(h':aP ex σ' KQ):aP ex σ KQ:=⟨ag h.le h'.le,h'.wf,λb hb hx=>(h'.old b (aD hb h.le) hx).trans (h.old b hb hx)⟩
def aP.to{ex:List Nat}{σ0 σ σ':St}(h:Fr σ0 σ)(he:aP ex σ σ')(hx:∀b∈ex,σ0.aj<=b):Fr σ0 σ':=⟨ag h.le he.le,he.wf,λb hb=>(he.old b (aD hb h.le) λhm=>by grind).trans (h.old b hb)⟩
def aP.to'{ex ex':List Nat}{σ0 σ σ':St}(h:aP ex' σ0 σ)(he:aP ex σ σ')(hx:∀b∈ex,σ0.aj<=b\/b∈ex'):aP ex' σ0 σ':=⟨ag h.le he.le,he.wf,λb hb hn=>(he.old b (aD hb h.le) λhm=>by grind).trans (h.old b hb hn)⟩
def aP.new1{ex:List Nat}{σ:St}{h:Tr Bk}{n:Nat}{k:Bk}(hf:aP ex σ ⟨h,n⟩):aP ex σ ⟨hset h n k,n+1⟩:=
 ⟨Nat.le_succ_of_le hf.le,λb hb=>by
  have hb:n+1<=b:=hb;show hset h n k b=none;rw[au _ _ _ _ jb];exact hf.wf b (show n<=b by omega),λb hb hx=>by
  show hset h n k b=_;have:σ.aj<=n:=hf.le;rw[au _ _ _ _ jb];exact hf.old b hb hx⟩
def aP.set1{ex:List Nat}{σ:St}{h:Tr Bk}{n b:Nat}{k:Bk}(hf:aP ex σ ⟨h,n⟩)(hb:σ.aj<=b\/b∈ex)(hb2:b<n):aP ex σ ⟨hset h b k,n⟩:=
 ⟨hf.le,λj hj=>by
  have hj:n<=j:=hj;show hset h b k j=none;rw[au _ _ _ _ jb];exact hf.wf j hj,λj hj hx=>by
  show hset h b k j=_;rw[au _ _ _ _ (λe=>by grind)];exact hf.old j hj hx⟩
theorem aP.ld{ex:List Nat}{σ σ':St}(h:WF σ)(hf:aP ex σ σ'){b o n:Nat}{g:Bool}{v:V}(hx:¬b∈ex)(hb:Xe.ld σ.h b o n g=some v):Xe.ld σ'.h b o n g=some v:=by have hlt:=h.dw hb;unfold Xe.ld at hb⊢;rw[hf.old b hlt hx];exact hb
def aP.get{ex:List Nat}{σ σ':St}(h:WF σ)(hf:aP ex σ σ'){b:Nat}{k:Bk}(hx:¬b∈ex)(hb:σ.h b=some k):σ'.h b=some k:=by rw[hf.old b (h.lt hb) hx];exact hb
def uK:Nat:=1000
def dK:Nat:=29000000
def eK:Nat:=29002000
def Zk(D k:Nat)(q:Rat):Prop:=∃a:Int,q=(a:Rat)/(D:Rat)/\a.natAbs<=k*(D*256^uK)
def Ah(D:Nat):Prop:=0<D/\D<256^dK
def aj1{D k u d s a:Nat}(hD:D<256^d)(hk:k<=256^u)(hs:u+d+u<=s)(ha:a<=k*(D*256^u)):a<256^s:=by have h1:(256:Nat)^(u+d+u)<=256^s:=bw jj hs;refine cL ha (aD ?_ h1);rw[dx,dx,fj];exact cL (bp _ hk) (Nat.mul_lt_mul_of_pos_left (eg hD (cY jj)) (cY jj))
def Sm.int{k:Nat}{a:Int}(hk:k≠0)(h:a.natAbs<256^k):Sm k (a:Rat):=⟨by show(a:Rat).num.natAbs<_;simp_all,by simp_all⟩
section
variable {D k l:Nat} {p q:Rat}
def Ah.ne(h:Ah D):(D:Rat)≠0:=by have:=h.1;intro e;simp_all
def Zk.int{a:Int}(hD:Ah D)(hk:k<=256^uK)(h:a.natAbs<=k*(D*256^uK)):Sm eK (a:Rat):=Sm.int jj (aj1 hD.2 hk jj h)
def Zk.sz(h:Zk D k q)(hD:Ah D)(hk:k<=256^uK):Sz q:=by obtain⟨a,rfl,h2⟩:=h;have h3:Sm dK ((D:Int):Rat):=Sm.int jj hD.2;exact((Zk.int hD hk h2).div h3 hD.ne).mono jj
def Zk.arY(h:Zk D k p)(h':Zk D l q)(hD:Ah D)(hk:k<=256^uK)(hl:l<=256^uK)(h0:q≠0):Sz (p/q):=by
 obtain⟨a,rfl,h2⟩:=h;obtain⟨b,rfl,h3⟩:=h';have hb:(b:Rat)≠0:=λe=>h0 kd;have e:(a:Rat)/(D:Rat)/((b:Rat)/(D:Rat))=(a:Rat)/(b:Rat):=by grind
 rw[e];exact((Zk.int hD hk h2).div (Zk.int hD hl h3) hb).mono jj
def Zk.mono(h:Zk D k q)(hkl:k<=l):Zk D l q:=by obtain⟨a,e,h2⟩:=h;exact⟨a,e,ag h2 (bp _ hkl)⟩
theorem Zk.add(h:Zk D k p)(h':Zk D l q):Zk D (k+l) (p+q):=by
 obtain⟨a,rfl,h2⟩:=h;obtain⟨b,rfl,h3⟩:=h';refine⟨a+b,?_,?_⟩
 .rw[Rat.intCast_add];grind
 .rw[gC];omega
def Zk.neg(h:Zk D k p):Zk D k (-p):=by obtain⟨a,rfl,h2⟩:=h;refine⟨-a,?_,jb⟩;grind
def Zk.sub(h:Zk D k p)(h':Zk D l q):Zk D (k+l) (p-q):=by rw[im];exact h.add h'.neg
theorem Zk.zero:Zk D k 0:=⟨0,by grind,by simp⟩
end
def hdel(h:Tr Bk)(b:Nat):Tr Bk:=h.set b none
theorem QY(h:Tr Bk)(b j:Nat):hdel h b j=if j=b then none else h j:=Tr.rJ h b none j
def CS(h:Tr Bk)(b j:Nat)(e:j≠b):hdel h b j=h j:=by grind[QY]
def aj2(o:Option (V×St))(K:V->St->Prop):Prop:=match o with|some (v,σ)=>K v σ|none=>False
@[congr] theorem aoL {o o' : Option (V×St)} {K:V→St→Prop} (h:o=o'):aj2 o K=aj2 o' K:=by rw [h]
def acp(v:V)(σ:St)(K:V->St->Prop):aj2 (some (v,σ)) K=K v σ:=rfl
def afs(ty fU bytes:Nat)(s x:V)(σ:St):Option (V×St):=
 match x with
 |.c .bg=>oV ty fU bytes s 0 [] σ
 |.c (.sl b o m _)=>bif Nat.beq m 0 then oV ty fU bytes s 0 [] σ else match σ.h b with
  |some k=>bif k.rd&&(Nat.beq ((k.cells.drop o).take (m*fU)).length (m*fU)&&((k.cells.drop o).take (m*fU)).all B.kn)then oV ty fU bytes s m ((k.cells.drop o).take (m*fU)) σ else none
  |none=>none
 |_=>none
def arZ(E:Env)(tm:Tr V)(σ:St)(K:V->St->Prop)(ty fU bytes:Nat)(s x:O):wpOp E (.app ty fU bytes s x) tm σ K=aj2 (afs ty fU bytes (s.ev tm) (x.ev tm) σ) K:=by rfl
def acr(ty fU bytes:Nat)(s:V)(σ:St):afs ty fU bytes s (.c .bg) σ=oV ty fU bytes s 0 [] σ:=rfl
def aft(ty fU bytes:Nat)(s:V)(b o:Nat)(c:Cap)(σ:St):afs ty fU bytes s (.c (.sl b o 0 c)) σ=oV ty fU bytes s 0 [] σ:=rfl
def aj3(ty fU bytes:Nat)(s:V)(b o m:Nat)(c:Cap)(σ:St)(hm:0<m):afs ty fU bytes s (.c (.sl b o m c)) σ=match σ.h b with
  |some k=>bif k.rd&&(Nat.beq ((k.cells.drop o).take (m*fU)).length (m*fU)&&((k.cells.drop o).take (m*fU)).all B.kn)then oV ty fU bytes s m ((k.cells.drop o).take (m*fU)) σ else none
  |none=>none:=by
 grind[afs,Lr]
variable {ty fU bytes n m:Nat} {news:List B} {h:Tr Bk} {nx b:Nat}
def O6(h1:0<m)(h2:0<fU)(h3:m*bytes<=140737488355328)(h4:m<=1073741824):oV ty fU bytes (.c .bg) m news ⟨h,nx⟩=some (.c (.sl nx 0 m .opn),⟨hset h nx ⟨news,some (fU,ty)⟩,nx+1⟩):=by grind[oV,Lr,DY,uj,jv]
def apK(ty fU bytes n m:Nat)(news:List B)(b:Nat)(h:Tr Bk)(nx:Nat)(k:Option Bk):Option (V×St):=match k with
 |some ⟨cells,some (e,t)⟩=>bif Nat.blt 0 e&&Nat.beq 0 0&&(Nat.beq e fU&&(Nat.beq t ty&&(Nat.ble ((n+m)*bytes) 140737488355328&&(Nat.ble (n+m) 1073741824&&Nat.ble (n*fU) cells.length))))then
   some (.c (.sl nx 0 (n+m) .opn),⟨hset (hdel h b) nx ⟨cells.take (n*fU)++news,some (fU,ty)⟩,nx+1⟩)else none
 |_=>none
def afu(h1:0<m):oV ty fU bytes (.c (.sl b 0 n .opn)) m news ⟨h,nx⟩=apK ty fU bytes n m news b h nx (h b):=by
 unfold oV apK;dsimp only;rw[Lr (by omega:m≠0)];simp only[eN];split
 .next cells e t hk=>
  rw[hk];dsimp only;cases(Nat.blt 0 e&&Nat.beq 0 0&&(Nat.beq e fU&&(Nat.beq t ty&&(Nat.ble ((n+m)*bytes) 140737488355328&&(Nat.ble (n+m) 1073741824&&Nat.ble (n*fU) cells.length)))))with
  |false=>rfl
  |true=>
   simp only[cg,Tr.put,jv,oU]
   rfl
 simp
def U4{cells:List B}(h2:0<fU)(h3:(n+m)*bytes<=140737488355328)(h4:n+m<=1073741824)(h5:n*fU<=cells.length):apK ty fU bytes n m news b h nx (some ⟨cells,some (fU,ty)⟩)=some (.c (.sl nx 0 (n+m) .opn),⟨hset (hdel h b) nx ⟨cells.take (n*fU)++news,some (fU,ty)⟩,nx+1⟩):=by simp_all[apK,DY,uj]
def acs(b o n:Nat)(σ:St):oV ty fU bytes (.c (.sl b o n (.ex n))) 0 news σ=some (.c (.sl b o n (.ex n)),σ):=by simp_all[oV,uj]
def afv(b o n:Nat)(σ:St):oV ty fU bytes (.c (.sl b o n .any)) 0 news σ=some (.c (.sl b o n .any),σ):=rfl
def Yb(σ:St)(h1:0<m)(h2:0<fU)(h3:m*bytes<=140737488355328)(h4:m<=1073741824):oV ty fU bytes (.c .bg) m news σ=some (.c (.sl σ.aj 0 m .opn),⟨hset σ.h σ.aj ⟨news,some (fU,ty)⟩,σ.aj+1⟩):=O6 h1 h2 h3 h4
def Yc(σ:St):oV ty fU bytes (.c .bg) 0 news σ=some (.c .bg,σ):=rfl
def O7(σ:St)(h1:0<m):oV ty fU bytes (.c (.sl b 0 n .opn)) m news σ=apK ty fU bytes n m news b σ.h σ.aj (σ.h b):=afu h1
def Yd{σ:St}(hb:σ.h b=some ⟨[],none⟩)(h1:0<m)(h2:0<fU)(h3:m*bytes<=140737488355328)(h4:m<=1073741824):oV ty fU bytes (.c (.sl b 0 0 (.ex 0))) m news σ=some (.c (.sl σ.aj 0 m .opn),⟨hset σ.h σ.aj ⟨news,some (fU,ty)⟩,σ.aj+1⟩):=by unfold oV;dsimp only;rw[Lr (by omega:m≠0),hb];simp only[eN,Bk.rd,Nat.zero_mul,cE,fv,DY h2,cK,DY h1,uj h3,uj h4,List.length_nil,eY,cg,jv,oU,gc,List.nil_append,Bool.true_and,cB];rfl
def Fr.mG{σ:St}{h:Tr Bk}{n b:Nat}(hf:Fr σ ⟨h,n⟩)(h1:σ.aj<=b):Fr σ ⟨hdel h b,n⟩:=
 ⟨hf.le,λj hj=>by
  show hdel h b j=none;rw[QY];split
  .rfl
  .exact hf.wf j hj,λj hj=>by
  show hdel h b j=_;rw[CS _ _ _ jb];exact hf.old j hj⟩
def aP.mG{ex:List Nat}{σ:St}{h:Tr Bk}{n b:Nat}(hf:aP ex σ ⟨h,n⟩)(h1:σ.aj<=b\/b∈ex):aP ex σ ⟨hdel h b,n⟩:=
 ⟨hf.le,λj hj=>by
  show hdel h b j=none;rw[QY];split
  .rfl
  .exact hf.wf j hj,λj hj hx=>by
  show hdel h b j=_;rw[CS _ _ _ (λe=>by grind)];exact hf.old j hj hx⟩
def aQ:Nat->Nat->B
 |0,_=>.bg
 |n+1,b=>.sl b 0 (n+1) .opn
def jV:Nat->Tr Bk->Nat->Tr Bk
 |0,h,_=>h
 |_+1,h,b=>hdel h b
def wJ:Nat->Tr Bk->Nat->Option Bk
 |0,_,_=>none
 |_+1,h,b=>h b
def gF(n:Nat)(G:Nat->List B)(e ty:Nat):Option Bk:=match n with
 |0=>none
 |n+1=>some ⟨dF (n+1) G,some (e,ty)⟩
def LG(G:Nat->List B)(e:Nat):Prop:=∀j,(G j).length=e
def apF(ty fU bytes n m:Nat)(news:List B)(b:Nat)(h:Tr Bk)(nx:Nat)(k:Option Bk):Option (V×St):=match n with
 |0=>oV ty fU bytes (.c .bg) m news ⟨h,nx⟩
 |n+1=>apK ty fU bytes (n+1) m news b h nx k
theorem Jv(n b:Nat):(aQ n b).kn=true:=by cases n<;>rfl
def U5(n b:Nat):lenV (.c (aQ n b))=some (.c (.int .i64 (.ofNat n))):=by cases n<;>rfl
theorem gI(n:Nat)(h:Tr Bk)(b j:Nat)(e:n=0\/j≠b):jV n h b j=h j:=by
 cases n with
 |zero=>rfl
 |succ n=>exact CS _ _ _ jb
def aj6(k:Nat)(h:Tr Bk)(b j o n:Nat)(g:Bool)(e:k=0\/j≠b):ld (jV k h b) j o n g=ld h j o n g:=by grind[ld,gI]
theorem uH{n:Nat}{h h':Tr Bk}{b:Nat}(e:n=0\/h' b=h b):wJ n h' b=wJ n h b:=by
 cases n with
 |zero=>rfl
 |succ n=>exact e.resolve_left jb
def afw(n:Nat)(h:Tr Bk)(j b:Nat)(k:Bk)(e:n=0\/b≠j):wJ n (hset h j k) b=wJ n h b:=uH (by grind[au])
def afx(σ:St)(h1:0<m):oV ty fU bytes (.c (aQ n b)) m news σ=apF ty fU bytes n m news b σ.h σ.aj (wJ n σ.h b):=by
 cases n with
 |zero=>rfl
 |succ n=>exact O7 σ h1
def aoM{G:Nat->List B}(h1:0<m)(h2:0<fU)(h3:(n+m)*bytes<=140737488355328)(h4:n+m<=1073741824)(hG:LG G fU):apF ty fU bytes n m news b h nx (gF n G fU ty)=some (.c (.sl nx 0 (n+m) .opn),⟨hset (jV n h b) nx ⟨dF n G++news,some (fU,ty)⟩,nx+1⟩):=by
 cases n with
 |zero=>
  rw[cK]at h3 h4⊢
  exact O6 h1 h2 h3 h4
 |succ n=>
  show apK ty fU bytes (n+1) m news b h nx (some ⟨dF (n+1) G,some (fU,ty)⟩)=_
  rw[U4 h2 h3 h4 (by rw[wV hG];omega),<-wV (n:=n+1) hG,bX]
  rfl
def Fr.jV{σ:St}{h:Tr Bk}{n b k:Nat}(hf:Fr σ ⟨h,n⟩)(h1:k=0\/σ.aj<=b):Fr σ ⟨Xe.jV k h b,n⟩:=by
 cases k with
 |zero=>exact hf
 |succ k=>exact Fr.mG hf jb
def aP.jV{ex:List Nat}{σ:St}{h:Tr Bk}{n b k:Nat}(hf:aP ex σ ⟨h,n⟩)(h1:σ.aj<=b\/b∈ex):aP ex σ ⟨Xe.jV k h b,n⟩:=by
 cases k with
 |zero=>exact hf
 |succ k=>exact aP.mG hf h1
attribute [go_sem] Jv U5 gI aj6 afw afx aoM
def Fr.up{σ σ':St}{n:Nat}(hf:Fr σ σ')(hn:σ'.aj<=n):Fr σ ⟨σ'.h,n⟩:=⟨ag hf.le hn,λb hb=>hf.wf b (ag hn hb),hf.old⟩
def Fr.nG{σ:St}{h:Tr Bk}{n n':Nat}{k:Bk}(hf:Fr σ ⟨h,n⟩)(hn:n<n'):Fr σ ⟨hset h n k,n'⟩:=Fr.up (Fr.new1 hf) hn
theorem fr{σ σ':St}(h:Fr σ σ':=by repeat(first|assumption|exact Fr.refl (by assumption)|exact Fr.up (by assumption) kf|exact Fr.up (Fr.refl (by assumption)) kf|refine Fr.set1 ?_ kf kf|refine Fr.jV ?_ kf|refine Fr.mG ?_ kf|refine Fr.nG ?_ kf)):Fr σ σ':=h
def aP.up{ex:List Nat}{σ σ':St}{n:Nat}(hf:aP ex σ σ')(hn:σ'.aj<=n):aP ex σ ⟨σ'.h,n⟩:=⟨ag hf.le hn,λb hb=>hf.wf b (ag hn hb),hf.old⟩
def aP.nG{ex:List Nat}{σ:St}{h:Tr Bk}{n n':Nat}{k:Bk}(hf:aP ex σ ⟨h,n⟩)(hn:n<n'):aP ex σ ⟨hset h n k,n'⟩:=aP.up (aP.new1 hf) hn
def aC.st{E:Env}{f:Nat}{args:List V}{σ:St}{K:V->St->Prop}(P:St->Prop)(h:P σ)(h2:P σ->aC E f args σ K):aC E f args σ K:=h2 h
def bK.st{E:Env}{c:AC}{tm:Tr V}{σ:St}{Q:AX->Tr V->St->Prop}(P:St->Prop)(h:P σ)(h2:P σ->bK E c tm σ Q):bK E c tm σ Q:=h2 h
def acu(n:Nat)(f:Nat->Rat):(bU n f).take (n*3)=bU n f:=by grind[Lu]
def acv(n:Nat)(g:Nat->B):(ones n g).take (n*1)=ones n g:=by grind[LC]
def afy(n:Nat)(f:Nat->Rat):n*3<=(bU n f).length:=by grind[Lu]
def aj7(h1:0<m)(h2:0<fU)(h3:m*bytes<=140737488355328)(h4:m<=1073741824):oV ty fU bytes (.c (.sl b 0 0 (.ex 0))) m news ⟨hset h b ⟨[],none⟩,nx⟩=some (.c (.sl nx 0 m .opn),⟨hset (hset h b ⟨[],none⟩) nx ⟨news,some (fU,ty)⟩,nx+1⟩):=Yd (aB _ _ _) h1 h2 h3 h4
def Ye:∀{n:Nat}{G:Nat->List B},(∀j,(G j).all B.kn=true)->(dF n G).all B.kn=true
 |0,_,_=>rfl
 |n+1,G,h=>by unfold dF;rw[List.all_append,h 0,Ye λj=>h (j+1)];rfl
def aj8(n:Nat)(f:Nat->Rat):(bU n f).all B.kn=true:=Ye λ_=>rfl
def ar0:((Int.ofNat 1:Int):Rat)=1:=rfl
def ar1:((Int.ofNat 0:Int):Rat)=0:=rfl
attribute [go_sem] aj7 aj8 Bool.not_true Bool.not_false ar0 ar1 CS acp arZ acr aj3 aft afv Yb Yc O7 U4 acs acu acv Lu LC aco
end Go.Proofs.Xe
namespace Go.Proofs.Xe
open Go.RowKit Go.Proofs.Ins
def O8(k:IntKind)(v:V):Option V:=match v with|.c (.int _ n)=>bif GV k n then some (.c (.int k n))else some (.c (.int k (k.wrap n)))|_=>none
def aoN(E:Env)(tm:Tr V)(σ:St)(K:V->St->Prop)(k:IntKind)(x:O):wpOp E (.conv k x) tm σ K=EF (O8 k (x.ev tm)) λv=>K v σ:=gV _ _ _ _ rfl λ_ _ h=>by cases h
def aj9{k j:IntKind}{n:Int}(h:k.wrap n=n):O8 k (.c (.int j n))=some (.c (.int k n)):=by grind[O8]
def aoO(j:IntKind)(a:Nat)(h:a<=9223372036854775807):O8 .i64 (.c (.int j (.ofNat a)))=some (.c (.int .i64 (.ofNat a))):=aj9 (by grind[IntKind.wrap_i64])
def aoP(j:IntKind)(a:Nat):O8 .u16 (.c (.int j (.ofNat a)))=some (.c (.int .u16 (.ofNat (a%65536)))):=by rfl
theorem FI(op:BinOp)(k:IntKind)(a b:Int):rX op (.c (.int k a)) (.c (.int k b))=Uh op k a b:=by unfold rX;simp
def ar2(k:IntKind)(a b:Nat)(h:0<b):rX .rem (.c (.int k (.ofNat a))) (.c (.int k (.ofNat b)))=some (.c (.int k (.ofNat (a%b)))):=by grind[FI,Uh,Aw]
def aoQ(k:IntKind)(a b:Nat)(h:0<b)(hw:k.wrap (Int.ofNat (a/b))=Int.ofNat (a/b)):rX .quo (.c (.int k (.ofNat a))) (.c (.int k (.ofNat b)))=some (.c (.int k (.ofNat (a/b)))):=by grind[FI,Uh,Aw]
def akb(a b m:Nat)(h:a<=m):a/b<=m:=ag (ff _ _) h
def acw(a b:Nat)(h:0<b)(h2:a<=65535):rX .quo (.c (.int .u16 (.ofNat a))) (.c (.int .u16 (.ofNat b)))=some (.c (.int .u16 (.ofNat (a/b)))):=aoQ _ _ _ h (by have:=akb a b _ h2;grind[IntKind.wrap_u16])
def acy(a b:Nat):rX .add (.c (.int .u16 (.ofNat a))) (.c (.int .u16 (.ofNat b)))=some (.c (.int .u16 (.ofNat ((a+b)%65536)))):=by rfl
def acz(a b:Nat):rX .mul (.c (.int .u16 (.ofNat a))) (.c (.int .u16 (.ofNat b)))=some (.c (.int .u16 (.ofNat (a*b%65536)))):=by rfl
def ar4(a b:Nat)(h:a*b<=9223372036854775807):rX .mul (.c (.int .i64 (.ofNat a))) (.c (.int .i64 (.ofNat b)))=some (.c (.int .i64 (.ofNat (a*b)))):=by show mkI .i64 (Int.ofNat a*Int.ofNat b)=_;rw[show Int.ofNat a*Int.ofNat b=Int.ofNat (a*b)from rfl,Z5 h]
def afz:IntKind.bits .i64=64:=rfl
def afA:IntKind.bits .u16=16:=rfl
def afB:IntKind.bits .u64=64:=rfl
def aoR(k:IntKind)(a b:Int):rX .eql (.c (.int k a)) (.c (.int k b))=some (.c (.bool (decide (a=b)))):=by rw[FI];rfl
def aoS(k:IntKind)(a b:Int):rX .neq (.c (.int k a)) (.c (.int k b))=some (.c (.bool (!decide (a=b)))):=by rw[FI];rfl
attribute [go_sem] aoN aoO aoP ar2 acw acy acz ar4 afz afA afB aoR aoS
end Go.Proofs.Xe
namespace Go.Proofs.Ins
open Go.RowKit
def Own(w:World)(b sz n:Nat)(F:Nat->List Value):Prop:=
 ∃c T,w.heap[b]?=some (.cells c T (0,0))/\c.size=n*sz/\∀i j,i<n->j<sz->c[i*sz+j]?=(F i)[j]?
def aT(F:Nat->List Value)(i:Nat)(x:List Value)(k:Nat):List Value:=if k=i then x else F k
theorem aS(F:Nat->List Value)(i:Nat)(x:List Value):aT F i x i=x:=ae rfl
def kL.mono{w:World}{base base':Nat}{T:TypeId}{sz:Nat}{v:Value}{n:Nat}{F:Nat->List Value}(h:kL w base T sz v n F)(hb:base'<=base):kL w base' T sz v n F:=by
 obtain⟨⟨h1,h2⟩,h3⟩:=h;refine⟨⟨h1,?_⟩,h3⟩;rcases h2 with h2|⟨g,cap,cur,hv,hg,r⟩
 .exact .inl h2
 .exact .inr ⟨g,cap,cur,hv,ag hb hg,r⟩
end Go.Proofs.Ins
end
