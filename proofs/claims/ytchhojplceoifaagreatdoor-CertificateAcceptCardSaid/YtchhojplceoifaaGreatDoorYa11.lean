import Derived.Test.YtchhojplceoifaaGreatDoorYa10
import Derived.Attr
set_option linter.all false
noncomputable section
namespace Go.Proofs.Xe
open Go.RowKit Go.Proofs.Ins
section
variable {E:Env}
theorem alL{n:Nat}{op:vV}{tm:Tr V}{σ σ':St}{v:V}{K:V->St->Prop}(h:oP (je E n) op tm σ=some (v,σ'))(hk:K v σ'):wpOp E op tm σ K:=by
 unfold wpOp;split
 .next g args=>
  unfold oP at h;simp only[vV.kind]at h;split at h
  .next f a e=>
   unfold abr at e;cases hg:g.ev tm with
   |fn f' caps=>
    dsimp only at e
    rw[hg]at e
    obtain⟨rfl,rfl⟩:=Prod.mk.inj (eC e)
    exact⟨n,v,σ',h,hk⟩
   |_=>grind
  .cases h
 .next hne=>
  have e:oP (λ_ _ _=>none) op tm σ=oP (je E n) op tm σ:=by
   unfold oP;cases hk2:op.kind with
   |c=>cases op<;>simp only[vV.kind,reduceCtorEq]at hk2;grind
   |_=>rfl
  grind
def agX{n:Nat}{o:AO}{tm:Tr V}{σ σ':St}{v:V}{K:V->St->Prop}(h:stepG (je E n) o tm σ=some (v,σ'))(hk:K v σ'):wpG E o tm σ K:=by grind[wpG,stepG,alL]
theorem WT{n:Nat}:∀{l:List AO}{tm tm':Tr V}{σ σ':St}{Q:Tr V->St->Prop},sN (je E n) l tm σ=some (tm',σ')->Q tm' σ'->wpOps E l tm σ Q
 |[],_,_,_,_,_,h,hq=>by cases h;exact hq
 |o::l,tm,tm',σ,σ',Q,h,hq=>by
  unfold sN at h;split at h
  .next v σ1 e=>
   rw[KN]at h;exact agX e (WT h hq)
  .cases h
theorem agY{n:Nat}{pt:List (List Nat)}{dR bW:Tr V}:∀{d:Dr}{σ σ':St}{res:List Rs}{pd:List iT}{tm':Tr V}{Q:Tr V->St->Prop},Cj (je E n) pt dR bW d σ res pd=some (tm',σ')->Q tm' σ'->WC E pt dR bW d σ res pd Q
 |.fin qs,σ,σ',res,pd,tm',Q,h,hq=>by grind[Go.Proofs.Xe.Cj,Go.Proofs.Xe.WC]
 |.act qs x r,σ,σ',res,pd,tm',Q,h,hq=>by
  unfold Cj at h;unfold WC;split at h
  .next σ1 res1 pd1 e=>
   rw[e];dsimp only;cases hb:pd1.all (again σ1)with
   |false=>rw[hb]at h;cases h
   |true=>
    rw[hb]at h
    simp only[cD]at h
    refine⟨rfl,?_⟩
    split at h
    .next VK e2=>
     rw[e2]
     dsimp only
     split at h
     .next v σ2 e3=>exact agX e3 (agY h hq)
     .cases h
    .cases h
  .cases h
end
section
variable (E:Env) (tm:Tr V) (σ:St) (Q:AX→Tr V→St→Prop)
def aqM(l:List AO):bM E (.ops l) tm σ Q=wpOps E l tm σ λtm' σ'=>Q .normal tm' σ':=by
 refine propext ⟨?_,ak8⟩;rintro⟨n,e,tm',σ',h,hq⟩;cases n with
 |zero=>grind[exec]
 |succ n=>
  simp only[exec,V3]at h
  grind[WT]
def auC(d:Dr)(pt:List (List Nat))(ds:List Nat):bM E (.drawn d pt ds) tm σ Q=WC E pt tm (ZK tm ds) d σ [] [] λtm' σ'=>Q .normal tm' σ':=by
 refine propext ⟨?_,aqL⟩;rintro⟨n,e,tm',σ',h,hq⟩;cases n with
 |zero=>grind[exec]
 |succ n=>
  simp only[exec,xDr,V3,Jb]at h
  grind[agY]
def seq_eq(a b:AC):bM E (.seq a b) tm σ Q=bM E a tm σ (TL E b Q):=by
 refine propext ⟨?_,run_seq⟩;rintro⟨n,e,tm',σ',h,hq⟩;cases n with
 |zero=>grind[exec]
 |succ n=>
  rw[exec]at h
  cases hx:exec E n a tm σ with
  |none=>rw[hx]at h;cases h
  |some q=>
   rw[hx]at h
   obtain⟨e1,IL,σ1⟩:=q
   refine⟨n,e1,IL,σ1,hx,?_⟩
   cases e1 with
   |normal=>exact⟨n,e,tm',σ',h,hq⟩
   |exit i=>cases h;exact hq
   |ret=>cases h;exact hq
def agZ(i:Nat)(a:AC):bM E (.block i a) tm σ Q=bM E a tm σ (agm i Q):=by
 refine propext ⟨?_,Ec⟩;rintro⟨n,e,tm',σ',h,hq⟩;cases n with
 |zero=>grind[exec]
 |succ n=>
  rw[exec]at h
  cases hx:exec E n a tm σ with
  |none=>rw[hx]at h;cases h
  |some q=>
   rw[hx]at h
   obtain⟨e1,IL,σ1⟩:=q
   refine⟨n,e1,IL,σ1,hx,?_⟩
   cases e1 with
   |normal=>cases h;exact hq
   |exit j=>cases h;exact hq
   |ret=>cases h;exact hq
def alM:bM E .skip tm σ Q=Q .normal tm σ:=by
 refine propext ⟨?_,WA⟩;rintro⟨n,e,tm',σ',h,hq⟩;cases n with
 |zero=>grind[exec]
 |succ n=>grind[exec]
def alN(i:Nat):bM E (.exit i) tm σ Q=Q (.exit i) tm σ:=by
 refine propext ⟨?_,agk⟩;rintro⟨n,e,tm',σ',h,hq⟩;cases n with
 |zero=>grind[exec]
 |succ n=>grind[exec]
def aqN:bM E .ret tm σ Q=Q .ret tm σ:=by
 refine propext ⟨?_,ak6⟩;rintro⟨n,e,tm',σ',h,hq⟩;cases n with
 |zero=>grind[exec]
 |succ n=>grind[exec]
def ifV(v:V)(P:Bool->Prop):Prop:=match v with|.c (.bool t)=>P t|_=>False
def alO(x:O)(a b:AC):bM E (.cond x a b) tm σ Q=ifV (x.ev tm) λt=>bM E (bif t then a else b) tm σ Q:=by
 refine propext ⟨?_,λh=>?_⟩
 .rintro⟨n,e,tm',σ',h,hq⟩;cases n with
  |zero=>grind[exec]
  |succ n=>
   simp only[exec,abu]at h
   split at h
   .next t e=>rw[e];exact⟨n,_,_,_,h,hq⟩
   .cases h
 .unfold ifV at h;grind[agl]
def aqO(a b:AC):bM E (bif true then a else b) tm σ Q=bM E a tm σ Q:=rfl
def aqP(a b:AC):bM E (bif false then a else b) tm σ Q=bM E b tm σ Q:=rfl
def alP(a b:AC):bM E (bif !true then a else b) tm σ Q=bM E b tm σ Q:=rfl
def alQ(a b:AC):bM E (bif !false then a else b) tm σ Q=bM E a tm σ Q:=rfl
def ag0(n:Nat)(b:AC)(r:List (Nat×Option (Nat×Bool))):bM E (AF.body ⟨n,b,r⟩) tm σ Q=bM E b tm σ Q:=rfl
def ag1(P:Bool->Prop):ifV (.c (.bool true)) P=P true:=rfl
def ad5(P:Bool->Prop):ifV (.c (.bool false)) P=P false:=rfl
def alR(b:Bool)(P:Bool->Prop):ifV (.c (.bool (!b))) P=ifV (.c (.bool b)) λt=>P (!t):=rfl
def aH{p:Prop}[Decidable p]{P:Bool->Prop}(h1:p->P true)(h2:¬p->P false):ifV (.c (.bool (decide p))) P:=by
 show P (decide p);by_cases h:p
 .grind
 grind
def auD{b:Bool}{P:Bool->Prop}(h1:b=true->P true)(h2:b=false->P false):ifV (.c (.bool b)) P:=by
 show P b;cases b with
 |true=>grind
 |false=>grind
def tick:Prop:=∀n:Nat,n=n
def ad6:tick=True:=propext ⟨λ_=>trivial,λ_ _=>rfl⟩
@[congr] theorem atq {z:Prop} {v v' : V} {P:Bool→Prop} (hz:tick=z) (h:v=v'):ifV v P=ifV v' P:=by rw [h]
@[congr] theorem atr {z:Prop} {v v' : Option V} {P:V→Prop} (hz:tick=z) (h:v=v'):F8 v P=F8 v' P:=by rw [h]
@[congr] theorem aqQ {z:Prop} {c:AC} {tm tm' : Tr V} {σ σ' : St} {Q:AX→Tr V→St→Prop} (hz:tick=z) (h:tm=tm') (h2:σ=σ'):bM E c tm σ Q=bM E c tm' σ' Q:=by rw [h,h2]
@[congr] theorem aoF {z:Prop} {c:List AO} {tm tm' : Tr V} {σ σ' : St} {Q:Tr V→St→Prop} (hz:tick=z) (h:tm=tm') (h2:σ=σ'):wpOps E c tm σ Q=wpOps E c tm' σ' Q:=by rw [h,h2]
@[congr] theorem att {z:Prop} {c:AO} {tm tm' : Tr V} {σ σ' : St} {Q:V→St→Prop} (hz:tick=z) (h:tm=tm') (h2:σ=σ'):wpG E c tm σ Q=wpG E c tm' σ' Q:=by rw [h,h2]
@[congr] theorem aqR {z:Prop} {c:vV} {tm tm' : Tr V} {σ σ' : St} {Q:V→St→Prop} (hz:tick=z) (h:tm=tm') (h2:σ=σ'):wpOp E c tm σ Q=wpOp E c tm' σ' Q:=by rw [h,h2]
@[congr] theorem aoG {z:Prop} {f:Nat} {a a' : List V} {σ σ' : St} {Q:V→St→Prop} (hz:tick=z) (h:a=a') (h2:σ=σ'):aC E f a σ Q=aC E f a' σ' Q:=by rw [h,h2]
@[congr] theorem atu {z:Prop} {dR bW:Tr V} {qs:List DO} {σ σ' : St} {res res' : List Rs} {pd pd' : List iT} {K:St→List Rs→List iT→Prop} (hz:tick=z) (h2:σ=σ') (h3:res=res') (h4:pd=pd'):uZ dR bW qs σ res pd K=uZ dR bW qs σ' res' pd' K:=by grind
@[congr] theorem atv {z:Prop} {pt:List (List Nat)} {dR bW:Tr V} {d:Dr} {σ σ' : St} {res res' : List Rs} {pd pd' : List iT} {K:Tr V→St→Prop} (hz:tick=z) (h2:σ=σ') (h3:res=res') (h4:pd=pd'):WC E pt dR bW d σ res pd K=WC E pt dR bW d σ' res' pd' K:=by grind
@[congr] theorem atw {z:Prop} {σ σ' : St} {pd pd' : List iT} (hz:tick=z) (h:σ=σ') (h2:pd=pd'):agn σ pd=agn σ' pd':=by rw [h,h2]
@[congr] theorem aqS {z:Prop} {i i' : Nat} {o:AO} {tm:Tr V} {v:V} {g:Bool} {nm:Option Nat} (hz:tick=z) (h:i=i'):iT.mk i o tm v g nm=iT.mk i' o tm v g nm:=by rw [h]
@[congr] theorem aoH {z:Prop} {σ σ' : St} {p:iT} (hz:tick=z) (h:σ=σ'):again σ p=again σ' p:=by rw [h]
@[congr] theorem atx {z:Prop} {dR bW:Tr V} {res:List Rs} {us us' os:List Nat} (hz:tick=z) (h:us=us'):MS dR bW res us os=MS dR bW res us' os:=by rw [h]
@[congr] theorem aqT {z:Prop} {bW:Tr V} {res:List Rs} {us us' : List Nat} (hz:tick=z) (h:us=us'):IY bW res us=IY bW res us':=by rw [h]
@[congr] theorem aty {z:Prop} {res:List Rs} {u u' : Nat} (hz:tick=z) (h:u=u'):fnd res u=fnd res u':=by rw [h]
@[congr] theorem aoI {z:Prop} {dR tm:Tr V} {os os' : List Nat} (hz:tick=z) (h:os=os'):E5 dR tm os=E5 dR tm os':=by rw [h]
@[congr] theorem aqU {z:Prop} {g:Option (Nat×Bool)} {tm:Tr V} {A B:Prop} (hz:tick=z):BJ g tm A B=BJ g tm A B:=rfl
@[congr] theorem atz {z:Prop} {v v' : V} {b:Bool} {A B:Prop} (hz:tick=z) (h:v=v'):gsV v b A B=gsV v' b A B:=by rw [h]
@[congr] theorem auE {z:Prop} {g:Option (Nat×Bool)} {dR bW:Tr V} {res:List Rs} {us os:List Nat} {σ:St} {pd:List iT} {i:Nat} {d:Option Nat} {op:vV} {l:List DO} {K:St→List Rs→List iT→Prop} (hz:tick=z):qR g dR bW res us os σ pd i d op l K=qR g dR bW res us os σ pd i d op l K:=rfl
def alS(E:Env)(d:Option Nat)(g:Option (Nat×Bool))(op:vV)(tm:Tr V)(σ:St)(K:V->St->Prop):wpG E ⟨d,g,op⟩ tm σ K=BJ g tm (wpOp E op tm σ K) (K .tnil σ):=rfl
def aqV(x:O)(K:V->St->Prop):wpOp E (.mov x) tm σ K=F8 (some (x.ev tm)) λv=>K v σ:=rfl
def aqW(b:AC):TL E b Q .normal tm σ=bM E b tm σ Q:=rfl
def aqX(b:AC)(i:Nat):TL E b Q (.exit i) tm σ=Q (.exit i) tm σ:=rfl
def aqY(b:AC):TL E b Q .ret tm σ=Q .ret tm σ:=rfl
def aqZ(i:Nat):agm i Q .normal tm σ=Q .normal tm σ:=rfl
def aq0(i j:Nat):agm i Q (.exit j) tm σ=Q (bif Nat.beq j i then .normal else .exit j) tm σ:=rfl
def aq1(i:Nat):agm i Q .ret tm σ=Q .ret tm σ:=rfl
variable (I:Nat→Tr V→St→Prop) (m:Nat) (res:List (Nat×Option (Nat×Bool))) (K:V→St→Prop)
def aq2:ak7 I m Q .normal tm σ=∃m',m'<m/\I m' tm σ:=rfl
def aq3(i:Nat):ak7 I m Q (.exit i) tm σ=Q (.exit i) tm σ:=rfl
def aq4:ak7 I m Q .ret tm σ=Q .ret tm σ:=rfl
def alT:ZG res K .normal tm σ=F8 (result tm σ res) λv=>K v σ:=by unfold ZG F8;grind
def aq5:ZG res K .ret tm σ=F8 (result tm σ res) λv=>K v σ:=by unfold ZG F8;grind
end
def aq6(p q:Rat):decide (oM p q<0)=decide (p<q):=by
 by_cases h:p<q
 .rw[be h,be];exact qH.mpr h
 .rw[az h,az];exact λe=>h (qH.mp e)
def ag2(tm:Tr V)(d:Nat)(v:V):Tr.get (EC tm (some d) v) d=some v:=by grind[EC,Tr.um]
def aq7(tm:Tr V)(d j:Nat)(v:V)(h:j≠d):Tr.get (EC tm (some d) v) j=Tr.get tm j:=by grind[EC,Tr.um]
def ZO(tm:Tr V)(σ:St):pI tm σ []=some .tnil:=rfl
def ag3(tm:Tr V)(σ:St)(t:Nat)(r:List (Nat×Option (Nat×Bool))):pI tm σ ((t,none)::r)=match tm.get t,pI tm σ r with|some v,some w=>some (.aV v w)|_,_=>none:=rfl
def ag4(tm:Tr V)(σ:St)(t n:Nat)(g:Bool)(r:List (Nat×Option (Nat×Bool))):pI tm σ ((t,some (n,g))::r)=match(match tm.ah t with|.c (.ptr b o)=>ld σ.h b o n g|_=>none),pI tm σ r with|some v,some w=>some (.aV v w)|_,_=>none:=rfl
def Fr.new1{σ:St}{h:Tr Bk}{n:Nat}{k:Bk}(hf:Fr σ ⟨h,n⟩):Fr σ ⟨hset h n k,n+1⟩:=Fr.new hf k
def Fr.set1{σ:St}{h:Tr Bk}{n b:Nat}{k:Bk}(hf:Fr σ ⟨h,n⟩)(h1:σ.aj<=b)(h2:b<n):Fr σ ⟨hset h b k,n⟩:=Fr.set hf h1 h2 k
def ak{h:Tr Bk}{b:Nat}{k:Bk}(e:h b=some k)(o n:Nat)(g:Bool):ld h b o n g=bif k.rd then zJ k.cells o n g else none:=by unfold ld;rw[e]
def aI{h:Tr Bk}{b:Nat}{k:Bk}(e:h b=some k)(o:Nat)(vs:List B):sto h b o vs=match bif k.pl then yD k.cells o vs else none with|some l=>some (hset h b ⟨l,k.opn⟩)|none=>none:=by grind[sto]
def plo(o:Option (Nat×Nat)):Bool:=match o with|some (0,_)=>false|_=>true
def YT(o:Option (Nat×Nat)):Bool:=match o with|some (0,t)=>Nat.beq t 1|_=>true
def aq8(k:Bk):k.pl=plo k.opn:=rfl
def ND(k:Bk):k.rd=YT k.opn:=rfl
def ag5:plo none=true:=rfl
def ag6:YT none=true:=rfl
def aoJ(e t:Nat)(h:e≠0):plo (some (e,t))=true:=by cases e with|zero=>omega|succ e=>rfl
def Fb(e t:Nat)(h:e≠0):YT (some (e,t))=true:=by cases e with|zero=>omega|succ e=>rfl
def auF:YT (some (0,1))=true:=rfl
def ag7(k:IntKind)(n:Int):B.kn (.int k n)=true:=rfl
theorem Aw(b:Bool):B.kn (.bool b)=true:=rfl
theorem FD(s:ByteArray):B.kn (.str s)=true:=rfl
def aq9(b o:Nat):B.kn (.ptr b o)=true:=rfl
def alU:B.kn .Tf=true:=rfl
def auG(b o n:Nat)(c:Cap):B.kn (.sl b o n c)=true:=rfl
def alV:B.kn .aW=true:=rfl
def auH(b:Nat):B.kn (.mp b)=true:=rfl
def HL.kn{h:Tr Bk}{e:Nat}{v:B}{n:Nat}{G:Nat->List B}(hl:HL h e v n G):v.kn=true:=by rcases hl with⟨-,rfl⟩|⟨b,o,c,rfl,-⟩<;>rfl
def HC.kn{h:Tr Bk}{v:B}{n:Nat}{G:Nat->B}(hl:HC h v n G):v.kn=true:=by rcases hl with⟨-,rfl⟩|⟨b,o,c,rfl,-⟩<;>rfl
def auI(x:B)(l:List B)(o n:Nat):zJ (x::l) o n true=bif Nat.beq (((x::l).drop o).take n).length n&&(((x::l).drop o).take n).all B.kn then some (.agg (((x::l).drop o).take n))else none:=rfl
def auJ(x:B)(l:List B)(o n:Nat):zJ (x::l) o n false=match(x::l).drop o with|x::_=>bif x.kn then some (.c x)else none|[]=>none:=rfl
def auK(x:B)(l vs:List B):yD (x::l) 0 vs=bif Nat.ble vs.length (x::l).length then some (vs++(x::l).drop vs.length)else none:=by rw[yD]
def auL(x:B)(l:List B)(o:Nat)(vs:List B):yD (x::l) (o+1) vs=match yD l o vs with|some r=>some (x::r)|none=>none:=by rfl
def ag8(a b:Nat):(Int.ofNat a=Int.ofNat b)=(a=b):=propext ⟨Int.ofNat.inj,λe=>by rw[e]⟩
def eq_neg(a b:Nat):(Int.ofNat a=Int.negSucc b)=False:=by simp
def auM[h:Decidable True]: @decide True h=true:=by simp
def auN[h:Decidable False]: @decide False h=false:=by simp
attribute [go_sem] ad6 alP alQ aqO aqP ag0 adV wpOps_cons agz aqc o_load alf alg alh aqd auj aqe aqf aqg aqh auk aul aum aun auo aup auq aqi aqj aur aoE aus ali alj aqk auu aut auv alk Ci aql Zp auw ale adU aqm alm auy aqn JU rep auz aln aqo axg axh adM alc adN adO adP adQ adR adS V.cells ald aui agy aqb aA axi axj cW eA Bool.and_true Bool.true_and List.drop_succ_cons ip gh cL bX List.length_nil Nat.reduceAdd cP cE abB QG xB Hl au dx List.nil_append gO List.map_cons List.map_nil result agx aG alv alx alq aqx alA alC agJ agL agN aqz aqB aqD agP agR aqF aqH alD agT alF aqJ agV alH alJ ad2 alr als aqp agC adW agD alo agE adZ ZL agF ad1 agB alu agG aqy alB agK agM agO aqA aqC aqE agQ agS aqG aqI alE agU alG aqK agW alI alK ZN WS ad4 aly auA ZM ad3 List.contains_cons List.contains_nil Nat.reduceBEq Bool.or_false Bool.or_true Bool.false_or Bool.true_or cD fP List.getD_cons_zero List.getD_cons_succ am and_true alS aqr aqs aqt aqu aqv aqw alp auB alz aqV aqM auC seq_eq agZ alM alN aqN alO ag1 ad5 alR aqW aqX aqY aqZ aq0 aq1 aq2 aq3 aq4 alT aq5 aq6 ag7 Aw FD aq9 alU auG alV auH auI auJ auK auL ag8 eq_neg auM auN aq8 ND ag5 ag6 aoJ Fb auF ag2 aq7 ZO ag3 ag4 auf ZI ZJ agw adL aug auh ap7 agv aud ap6 agu adK WL ap4 WI ap5 WJ adJ aue ala abA ap8 WO ap9 aqa alb WM
def bV:Nat->(Nat->List B)->List B
 |0,_=>[]
 |n+1,G=>G 0++bV n λi=>G (i+1)
def WU{e:Nat}:∀{n:Nat}{G:Nat->List B}{i:Nat},(∀j,(G j).length=e)->i<n->∃r,(bV n G).drop (i*e)=G i++r
 |0,_,_,_,h=>jb
 |n+1,G,0,_,_=>⟨bV n λi=>G (i+1),by rw[ir];rfl⟩
 |n+1,G,i+1,hG,h=>by obtain⟨r,hr⟩:=WU (G:=λi=>G (i+1)) (i:=i) (λj=>hG (j+1)) (by omega:i<n);refine⟨r,?_⟩;show(G 0++bV n λi=>G (i+1)).drop _=_;rw[cB,fo,<-hG 0,List.drop_length_add_append,hG 0];exact hr
def yV{e n i k m:Nat}{G:Nat->List B}(g:Bool)(hG:∀j,(G j).length=e)(h:i<n)(hk:k+m<=e)(hm:0<m):zJ (bV n G) (i*e+k) m g=zJ (G i) k m g:=by
 obtain⟨r,hr⟩:=WU hG h;have hd:(bV n G).drop (i*e+k)=(G i).drop k++r:=by rw[<-List.drop_drop,hr,List.drop_append_of_le_length kd]
 have hl:((G i).drop k).length=e-k:=by grind
 unfold zJ;grind
def ag9:∀(p:List B) (l:List B) (o:Nat) (vs:List B),yD (p++l) (p.length+o) vs=match yD l o vs with|some r=>some (p++r)|none=>none
 |[],l,o,vs=>by grind
 |x::p,l,o,vs=>by rw[gO,bX,show p.length+1+o=(p.length+o)+1 by omega,yD,ag9 p l o vs];cases yD l o vs<;>rfl
def abE:∀(p:List B) (l:List B) (o:Nat) (vs:List B),o+vs.length<=p.length->yD (p++l) o vs=match yD p o vs with|some r=>some (r++l)|none=>none
 |p,l,0,vs,h=>by grind[yD,xB]
 |[],l,o+1,vs,h=>by simp at h
 |x::p,l,o+1,vs,h=>by rw[gO,yD,yD,abE p l o vs (by simp only[bX]at h;omega)];cases yD p o vs<;>rfl
def jm(G:Nat->List B)(i:Nat)(r:List B):Nat->List B:=λj=>if j=i then r else G j
def Az{e k:Nat}{vs:List B}:∀{n i:Nat}{G:Nat->List B},(∀j,(G j).length=e)->i<n->k+vs.length<=e->yD (bV n G) (i*e+k) vs=match yD (G i) k vs with|some r=>some (bV n (jm G i r))|none=>none
 |0,_,_,_,h,_=>jb
 |n+1,0,G,hG,_,hk=>by rw[ir,cP];show yD (G 0++_) k vs=_;rw[abE _ _ _ _ kd];rfl
 |n+1,i+1,G,hG,h,hk=>by
  show yD (G 0++bV n λi=>G (i+1)) _ vs=_;rw[show(i+1)*e+k=(G 0).length+(i*e+k) by rw[hG,cB];omega,ag9,Az (λj=>hG (j+1)) jb hk];cases yD (G (i+1)) k vs with
  |none=>rfl
  |some r=>
   show some _=some _
   congr 1
   show G 0++_=jm G (i+1) r 0++_
   congr 2
   funext j
   unfold jm
   simp only[Nat.add_right_cancel_iff]
theorem dA:∀{n:Nat}{G H:Nat->List B},(∀i,i<n->G i=H i)->bV n G=bV n H
 |0,_,_,_=>rfl
 |n+1,G,H,h=>by unfold bV;rw[h 0 jb,dA λi hi=>h (i+1) jb]
def KO(z:List B):∀n,rep z n=bV n λ_=>z
 |0=>rfl
 |n+1=>by unfold rep bV;rw[KO z n]
theorem l7:∀(n:Nat) (G:Nat->List B) (r:List B),bV n G++r=bV (n+1) (jm G n r)
 |0,G,r=>by grind[bV,jm]
 |n+1,G,r=>by rw[bV,ik,l7 n _ r];show _=jm G (n+1) r 0++bV (n+1) _;congr 2;funext j;unfold jm;simp only[Nat.add_right_cancel_iff]
def qP{e:Nat}:∀{n:Nat}{G:Nat->List B},(∀j,(G j).length=e)->(bV n G).length=n*e
 |0,_,_=>by simp[bV]
 |n+1,G,h=>by rw[bV,aD,h,qP λj=>h (j+1),cB];omega
def yX{h:Tr Bk}{b o n:Nat}{cs:List B}(e:ld h b o n true=some (.agg cs))(k m:Nat)(g:Bool)(hk:k+m<=n)(hm:0<m):ld h b (o+k) m g=zJ cs k m g:=by
 unfold ld at e⊢;cases hb:h b with
 |none=>grind
 |some bk=>
  rw[hb]at e
  dsimp only at e⊢
  cases hr:bk.rd with
  |false=>grind
  |true=>
   rw[hr]at e
   simp only[cD]at e⊢
   unfold zJ at e
   dsimp only at e
   cases hx:(Nat.beq ((bk.cells.drop o).take n).length n&&((bk.cells.drop o).take n).all B.kn)with
   |false=>grind
   |true=>
    rw[hx]at e
    cases e
    rw[af]at hx
    have hl:=ap hx.1
    rw[dq]at hl
    unfold zJ
    cases g with
    |true=>
     grind[List.drop_take,List.drop_drop]
    |false=>
     dsimp only
     rw[List.drop_take,List.drop_drop]
     have hd:n-k=(n-k-1)+1:=jb
     grind
def AA{h:Tr Bk}{b o n:Nat}{cs:List B}(e:ld h b o n true=some (.agg cs))(m:Nat)(g:Bool)(hk:m<=n)(hm:0<m):ld h b o m g=zJ cs 0 m g:=yX e 0 m g jb hm
def ig(q:Rat):List B:=[.bool (rn q),.str (rs q),.str (rd q)]
def bZ(n:Nat)(f:Nat->Rat):List B:=bV n λi=>ig (f i)
def aN{α:Type}(f:Nat->α)(i:Nat)(q:α):Nat->α:=λj=>if j=i then q else f j
def TU(n:Nat)(f:Nat->Rat)(i:Nat)(h:i<n):zJ (bZ n f) (i*3) 3 true=some (.agg [.bool (rn (f i)),.str (rs (f i)),.str (rd (f i))]):=by unfold bZ;have:=yV (e:=3) (k:=0) (m:=3) (G:=λi=>ig (f i)) true (λ_=>rfl) h jj jj;rw[cE]at this;rw[this];rfl
def alW(n:Nat)(f:Nat->Rat)(i:Nat)(q:Rat)(h:i<n):yD (bZ n f) (i*3) [.bool (rn q),.str (rs q),.str (rd q)]=some (bZ n (aN f i q)):=by unfold bZ;have:=Az (e:=3) (k:=0) (vs:=ig q) (G:=λi=>ig (f i)) (λ_=>rfl) h (cT 3);rw[cE]at this;show yD _ _ (ig q)=_;rw[this];show some _=some _;congr 2;funext j;unfold jm aN;split<;>rfl
theorem dH{n:Nat}{f g:Nat->Rat}(h:∀i,i<n->f i=g i):bZ n f=bZ n g:=dA λi hi=>by grind
def aha(n:Nat):rep [.bool (rn 0),.str (rs 0),.str (rd 0)] n=bZ n λ_=>0:=KO _ n
def ad7(n:Nat)(f:Nat->Rat)(q:Rat):bZ n f++[.bool (rn q),.str (rs q),.str (rd q)]=bZ (n+1) (aN f n q):=by unfold bZ;rw[show [B.bool (rn q),.str (rs q),.str (rd q)]=ig q from rfl,l7];congr 1;grind[jm,aN]
theorem NG(n:Nat)(f:Nat->Rat):(bZ n f).length=n*3:=qP λ_=>rfl
def ones(n:Nat)(g:Nat->B):List B:=bV n λi=>[g i]
def abG(n:Nat)(g:Nat->B)(i:Nat)(h:i<n):zJ (ones n g) (i*1) 1 false=bif (g i).kn then some (.c (g i))else none:=by unfold ones;have:=yV (e:=1) (k:=0) (m:=1) (G:=λi=>[g i]) false (λ_=>rfl) h jj jj;rw[cE]at this;rw[this];rfl
def alX(n:Nat)(g:Nat->B)(i:Nat)(x:B)(h:i<n):yD (ones n g) (i*1) [x]=some (ones n (aN g i x)):=by unfold ones;have:=Az (e:=1) (k:=0) (vs:=[x]) (G:=λi=>[g i]) (λ_=>rfl) h (cT 1);rw[cE]at this;rw[this];show some _=some _;congr 2;grind[jm,aN]
def bF{n:Nat}{f g:Nat->B}(h:∀i,i<n->f i=g i):ones n f=ones n g:=dA λi hi=>by grind
def ahb(x:B)(n:Nat):rep [x] n=ones n λ_=>x:=KO _ n
theorem NH(n:Nat)(g:Nat->B):(ones n g).length=n*1:=qP λ_=>rfl
theorem aP{α:Type}(f:Nat->α)(i:Nat)(q:α):aN f i q i=q:=ab rfl
theorem aQ{α:Type}(f:Nat->α)(i j:Nat)(q:α)(h:j≠i):aN f i q j=f j:=ae h
def TV:Option V->Nat->Option Nat
 |none,d=>some d
 |some v,_=>JU v
def ahc(b:Option O)(tm:Tr V)(d:Nat):VY b tm d=TV (b.map (·.ev tm)) d:=by cases b<;>rfl
def TW(iy:Nat)(x:V)(lo hi mx:Option V):Option V:=
 match x with
 |.c (.sl b o n c)=>
  match TV lo 0,TV hi n with
  |some l,some h=>bif Nat.ble l h&&Nat.ble h n then
    match mx with
    |none=>(match c with
     |.ex k=>bif Nat.blt l k then some (.c (.sl b (o+l*iy) (h-l) (.ex (k-l))))else some (.c (.sl b o 0 .any))
     |.opn=>bif Nat.beq l 0 then some (.c (.sl b o h .opn))else bif Nat.blt l n then some (.c (.sl b (o+l*iy) (h-l) .any))else some (.c (.sl b o 0 .any))
     |.any=>bif Nat.blt l n then some (.c (.sl b (o+l*iy) (h-l) .any))else some (.c (.sl b o 0 .any)))
    |some y=>match JU y with
     |some q=>bif Nat.ble h q&&Nat.ble q n then bif Nat.beq l 0 then some (.c (.sl b o h (bif Nat.beq n 0 then .any else .ex q)))else none else none
     |none=>none
   else none
  |_,_=>none
 |.c .aW=>match TV lo 0,TV hi 0 with
  |some 0,some 0=>(match mx with|none=>some (.c .aW)|some y=>match JU y with|some 0=>some (.c .aW)|_=>none)
  |_,_=>none
 |_=>none
def WV(iy:Nat)(x:O)(lo hi mx:Option O)(tm:Tr V):MQ iy x lo hi mx tm=TW iy (x.ev tm) (lo.map (·.ev tm)) (hi.map (·.ev tm)) (mx.map (·.ev tm)):=by unfold MQ TW;simp only[sJ,ahc];cases mx<;>rfl
def alY(E:Env)(tm:Tr V)(σ:St)(K:V->St->Prop)(iy:Nat)(x:O)(lo hi mx:Option O):wpOp E (.slice iy x lo hi mx) tm σ K=F8 (TW iy (x.ev tm) (lo.map (·.ev tm)) (hi.map (·.ev tm)) (mx.map (·.ev tm))) λv=>K v σ:=by rw[iE _ _ _ _ (by rfl) λ_ _ h=>by cases h];show F8 (MQ iy x lo hi mx tm) _=_;rw[WV]
def alZ:B->Prop
 |.sl _ _ n (.ex k)=>n<=k
 |_=>True
def ara{v:B}{n h:Nat}(hc:alZ v)(hv:(n=0/\v=.aW)\/∃b o c,v=.sl b o n c/\0<n)(hh:h<=n)(iy:Nat):∃v',TW iy (.c v) none (some (.c (.int .i64 (.ofNat h)))) none=some (.c v')/\alZ v'/\((n=0/\v'=.aW)\/∃b o c c',v=.sl b o n c/\v'=.sl b o h c'):=by
 rcases hv with⟨rfl,rfl⟩|⟨b,o,c,rfl,hn⟩
 .have:h=0:=jb;subst this;exact⟨.aW,rfl,trivial,.inl ⟨rfl,rfl⟩⟩
 .cases c with
  |ex k=>
   have hc:n<=k:=hc
   refine⟨.sl b o h (.ex k),?_,by show h<=k;omega,.inr ⟨b,o,_,_,rfl,rfl⟩⟩
   grind[TW,TV,JU,xB,Hl]
  |opn=>
   refine⟨.sl b o h .opn,?_,trivial,.inr ⟨b,o,_,_,rfl,rfl⟩⟩
   grind[TW,TV,JU,xB,abB]
  |any=>
   refine⟨.sl b o h .any,?_,trivial,.inr ⟨b,o,_,_,rfl,rfl⟩⟩
   grind[TW,TV,JU,xB,Hl]
attribute [go_sem] alY Option.map_some Option.map_none
attribute [go_sem] TU alW aha abG alX ahb
structure aU(ex:List Nat)(σ σ':St):Prop where
 le:σ.aj<=σ'.aj
 wf:WF σ'
 old:∀b,b<σ.aj->¬b∈ex->σ'.h b=σ.h b
def Fr.ex{σ σ':St}(h:Fr σ σ')(ex:List Nat):aU ex σ σ':=⟨h.le,h.wf,λb hb _=>h.old b hb⟩
theorem aU.refl{σ:St}{ex:List Nat}(h:WF σ):aU ex σ σ:=(Fr.refl h).ex ex
def aU.trans{ex:List Nat}{σ σ' Ko:St}(h:aU ex σ σ')(h':aU ex σ' Ko):aU ex σ Ko:=⟨aw h.le h'.le,h'.wf,λb hb hx=>(h'.old b (aL hb h.le) hx).trans (h.old b hb hx)⟩
def aU.to{ex:List Nat}{σ0 σ σ':St}(h:Fr σ0 σ)(he:aU ex σ σ')(hx:∀b∈ex,σ0.aj<=b):Fr σ0 σ':=⟨aw h.le he.le,he.wf,λb hb=>(he.old b (aL hb h.le) λhm=>by grind).trans (h.old b hb)⟩
def aU.to'{ex ex':List Nat}{σ0 σ σ':St}(h:aU ex' σ0 σ)(he:aU ex σ σ')(hx:∀b∈ex,σ0.aj<=b\/b∈ex'):aU ex' σ0 σ':=⟨aw h.le he.le,he.wf,λb hb hn=>(he.old b (aL hb h.le) λhm=>by grind).trans (h.old b hb hn)⟩
def aU.new1{ex:List Nat}{σ:St}{h:Tr Bk}{n:Nat}{k:Bk}(hf:aU ex σ ⟨h,n⟩):aU ex σ ⟨hset h n k,n+1⟩:=
 ⟨Nat.le_succ_of_le hf.le,λb hb=>by
  have hb:n+1<=b:=hb;show hset h n k b=none;rw[au _ _ _ _ jb];exact hf.wf b (show n<=b by omega),λb hb hx=>by
  show hset h n k b=_;have:σ.aj<=n:=hf.le;rw[au _ _ _ _ jb];exact hf.old b hb hx⟩
def aU.set1{ex:List Nat}{σ:St}{h:Tr Bk}{n b:Nat}{k:Bk}(hf:aU ex σ ⟨h,n⟩)(hb:σ.aj<=b\/b∈ex)(hb2:b<n):aU ex σ ⟨hset h b k,n⟩:=
 ⟨hf.le,λj hj=>by
  have hj:n<=j:=hj;show hset h b k j=none;rw[au _ _ _ _ jb];exact hf.wf j hj,λj hj hx=>by
  show hset h b k j=_;rw[au _ _ _ _ (λe=>by grind)];exact hf.old j hj hx⟩
theorem aU.ld{ex:List Nat}{σ σ':St}(h:WF σ)(hf:aU ex σ σ'){b o n:Nat}{g:Bool}{v:V}(hx:¬b∈ex)(hb:Xe.ld σ.h b o n g=some v):Xe.ld σ'.h b o n g=some v:=by have hlt:=h.dB hb;unfold Xe.ld at hb⊢;rw[hf.old b hlt hx];exact hb
def aU.get{ex:List Nat}{σ σ':St}(h:WF σ)(hf:aU ex σ σ'){b:Nat}{k:Bk}(hx:¬b∈ex)(hb:σ.h b=some k):σ'.h b=some k:=by rw[hf.old b (h.lt hb) hx];exact hb
def uK:Nat:=1000
def dK:Nat:=29000000
def eK:Nat:=29002000
def Zk(D k:Nat)(q:Rat):Prop:=∃a:Int,q=(a:Rat)/(D:Rat)/\a.natAbs<=k*(D*256^uK)
def BR(D:Nat):Prop:=0<D/\D<256^dK
def al0{D k u d s a:Nat}(hD:D<256^d)(hk:k<=256^u)(hs:u+d+u<=s)(ha:a<=k*(D*256^u)):a<256^s:=by have h1:(256:Nat)^(u+d+u)<=256^s:=bB jj hs;refine cY ha (aL ?_ h1);rw[eg,eg,gb];exact cY (bw _ hk) (Nat.mul_lt_mul_of_pos_left (eL hD (dt jj)) (dt jj))
def Sm.int{k:Nat}{a:Int}(hk:k≠0)(h:a.natAbs<256^k):Sm k (a:Rat):=⟨by show(a:Rat).num.natAbs<_;simp_all,by simp_all⟩
section
variable {D k l:Nat} {p q:Rat}
def BR.ne(h:BR D):(D:Rat)≠0:=by have:=h.1;intro e;simp_all
def Zk.int{a:Int}(hD:BR D)(hk:k<=256^uK)(h:a.natAbs<=k*(D*256^uK)):Sm eK (a:Rat):=Sm.int jj (al0 hD.2 hk jj h)
def Zk.sz(h:Zk D k q)(hD:BR D)(hk:k<=256^uK):Sz q:=by obtain⟨a,rfl,h2⟩:=h;have h3:Sm dK ((D:Int):Rat):=Sm.int jj hD.2;exact((Zk.int hD hk h2).div h3 hD.ne).mono jj
def Zk.auO(h:Zk D k p)(h':Zk D l q)(hD:BR D)(hk:k<=256^uK)(hl:l<=256^uK)(h0:q≠0):Sz (p/q):=by
 obtain⟨a,rfl,h2⟩:=h;obtain⟨b,rfl,h3⟩:=h';have hb:(b:Rat)≠0:=λe=>h0 kd;have e:(a:Rat)/(D:Rat)/((b:Rat)/(D:Rat))=(a:Rat)/(b:Rat):=by grind
 rw[e];exact((Zk.int hD hk h2).div (Zk.int hD hl h3) hb).mono jj
def Zk.mono(h:Zk D k q)(hkl:k<=l):Zk D l q:=by obtain⟨a,e,h2⟩:=h;exact⟨a,e,aw h2 (bw _ hkl)⟩
theorem Zk.add(h:Zk D k p)(h':Zk D l q):Zk D (k+l) (p+q):=by
 obtain⟨a,rfl,h2⟩:=h;obtain⟨b,rfl,h3⟩:=h';refine⟨a+b,?_,?_⟩
 .rw[Rat.intCast_add];grind
 .rw[ie];omega
def Zk.neg(h:Zk D k p):Zk D k (-p):=by obtain⟨a,rfl,h2⟩:=h;refine⟨-a,?_,jb⟩;grind
def Zk.sub(h:Zk D k p)(h':Zk D l q):Zk D (k+l) (p-q):=by rw[jt];exact h.add h'.neg
theorem Zk.zero:Zk D k 0:=⟨0,by grind,by simp⟩
end
def hdel(h:Tr Bk)(b:Nat):Tr Bk:=h.set b none
theorem TY(h:Tr Bk)(b j:Nat):hdel h b j=if j=b then none else h j:=Tr.um h b none j
theorem iF(h:Tr Bk)(b j:Nat)(e:j≠b):hdel h b j=h j:=by grind[TY]
def arb(h:Tr Bk)(b j o n:Nat)(g:Bool)(e:j≠b):ld (hdel h b) j o n g=ld h j o n g:=by grind[ld,iF]
def al1(o:Option (V×St))(K:V->St->Prop):Prop:=match o with|some (v,σ)=>K v σ|none=>False
@[congr] theorem ard {o o' : Option (V×St)} {K:V→St→Prop} (h:o=o'):al1 o K=al1 o' K:=by rw [h]
def ad8(v:V)(σ:St)(K:V->St->Prop):al1 (some (v,σ)) K=K v σ:=rfl
def ahd(ty iy bytes:Nat)(s x:V)(σ:St):Option (V×St):=
 match x with
 |.c .aW=>sK ty iy bytes s 0 [] σ
 |.c (.sl b o m _)=>bif Nat.beq m 0 then sK ty iy bytes s 0 [] σ else match σ.h b with
  |some k=>bif k.rd&&(Nat.beq ((k.cells.drop o).take (m*iy)).length (m*iy)&&((k.cells.drop o).take (m*iy)).all B.kn)then sK ty iy bytes s m ((k.cells.drop o).take (m*iy)) σ else none
  |none=>none
 |_=>none
def auP(E:Env)(tm:Tr V)(σ:St)(K:V->St->Prop)(ty iy bytes:Nat)(s x:O):wpOp E (.app ty iy bytes s x) tm σ K=al1 (ahd ty iy bytes (s.ev tm) (x.ev tm) σ) K:=by rfl
def ad9(ty iy bytes:Nat)(s:V)(σ:St):ahd ty iy bytes s (.c .aW) σ=sK ty iy bytes s 0 [] σ:=rfl
def ahe(ty iy bytes:Nat)(s:V)(b o:Nat)(c:Cap)(σ:St):ahd ty iy bytes s (.c (.sl b o 0 c)) σ=sK ty iy bytes s 0 [] σ:=rfl
def al2(ty iy bytes:Nat)(s:V)(b o m:Nat)(c:Cap)(σ:St)(hm:0<m):ahd ty iy bytes s (.c (.sl b o m c)) σ=match σ.h b with
  |some k=>bif k.rd&&(Nat.beq ((k.cells.drop o).take (m*iy)).length (m*iy)&&((k.cells.drop o).take (m*iy)).all B.kn)then sK ty iy bytes s m ((k.cells.drop o).take (m*iy)) σ else none
  |none=>none:=by
 grind[ahd,QG]
variable {ty iy bytes n m:Nat} {news:List B} {h:Tr Bk} {nx b:Nat}
def QH(h1:0<m)(h2:0<iy)(h3:m*bytes<=140737488355328)(h4:m<=1073741824):sK ty iy bytes (.c .aW) m news ⟨h,nx⟩=some (.c (.sl nx 0 m .opn),⟨hset h nx ⟨news,some (iy,ty)⟩,nx+1⟩):=by grind[sK,QG,Hl,xB,kG]
def apK(ty iy bytes n m:Nat)(news:List B)(b:Nat)(h:Tr Bk)(nx:Nat)(k:Option Bk):Option (V×St):=match k with
 |some ⟨cells,some (e,t)⟩=>bif Nat.blt 0 e&&Nat.beq 0 0&&(Nat.beq e iy&&(Nat.beq t ty&&(Nat.ble ((n+m)*bytes) 140737488355328&&(Nat.ble (n+m) 1073741824&&Nat.ble (n*iy) cells.length))))then
   some (.c (.sl nx 0 (n+m) .opn),⟨hset (hdel h b) nx ⟨cells.take (n*iy)++news,some (iy,ty)⟩,nx+1⟩)else none
 |_=>none
def ahf(h1:0<m):sK ty iy bytes (.c (.sl b 0 n .opn)) m news ⟨h,nx⟩=apK ty iy bytes n m news b h nx (h b):=by
 unfold sK apK;dsimp only;rw[QG (by omega:m≠0)];simp only[fP];split
 .next cells e t hk=>
  rw[hk];dsimp only;cases(Nat.blt 0 e&&Nat.beq 0 0&&(Nat.beq e iy&&(Nat.beq t ty&&(Nat.ble ((n+m)*bytes) 140737488355328&&(Nat.ble (n+m) 1073741824&&Nat.ble (n*iy) cells.length)))))with
  |false=>rfl
  |true=>
   simp only[cD,Tr.put,kG,sJ]
   rfl
 simp
def WW{cells:List B}(h2:0<iy)(h3:(n+m)*bytes<=140737488355328)(h4:n+m<=1073741824)(h5:n*iy<=cells.length):apK ty iy bytes n m news b h nx (some ⟨cells,some (iy,ty)⟩)=some (.c (.sl nx 0 (n+m) .opn),⟨hset (hdel h b) nx ⟨cells.take (n*iy)++news,some (iy,ty)⟩,nx+1⟩):=by simp_all[apK,Hl,xB]
def aea(b o n:Nat)(σ:St):sK ty iy bytes (.c (.sl b o n (.ex n))) 0 news σ=some (.c (.sl b o n (.ex n)),σ):=by simp_all[sK,xB]
def ahg(b o n:Nat)(σ:St):sK ty iy bytes (.c (.sl b o n .any)) 0 news σ=some (.c (.sl b o n .any),σ):=rfl
def ZP(σ:St)(h1:0<m)(h2:0<iy)(h3:m*bytes<=140737488355328)(h4:m<=1073741824):sK ty iy bytes (.c .aW) m news σ=some (.c (.sl σ.aj 0 m .opn),⟨hset σ.h σ.aj ⟨news,some (iy,ty)⟩,σ.aj+1⟩):=QH h1 h2 h3 h4
def ZQ(σ:St):sK ty iy bytes (.c .aW) 0 news σ=some (.c .aW,σ):=rfl
def QI(σ:St)(h1:0<m):sK ty iy bytes (.c (.sl b 0 n .opn)) m news σ=apK ty iy bytes n m news b σ.h σ.aj (σ.h b):=ahf h1
def ZR{σ:St}(hb:σ.h b=some ⟨[],none⟩)(h1:0<m)(h2:0<iy)(h3:m*bytes<=140737488355328)(h4:m<=1073741824):sK ty iy bytes (.c (.sl b 0 0 (.ex 0))) m news σ=some (.c (.sl σ.aj 0 m .opn),⟨hset σ.h σ.aj ⟨news,some (iy,ty)⟩,σ.aj+1⟩):=by unfold sK;dsimp only;rw[QG (by omega:m≠0),hb];simp only[fP,Bk.rd,ir,cL,eA,Hl h2,cP,Hl h1,xB h3,xB h4,List.length_nil,eh,cD,kG,sJ,ip,List.nil_append,Bool.true_and,cE];rfl
def Fr.nN{σ:St}{h:Tr Bk}{n b:Nat}(hf:Fr σ ⟨h,n⟩)(h1:σ.aj<=b):Fr σ ⟨hdel h b,n⟩:=
 ⟨hf.le,λj hj=>by
  show hdel h b j=none;rw[TY];split
  .rfl
  .exact hf.wf j hj,λj hj=>by
  show hdel h b j=_;rw[iF _ _ _ jb];exact hf.old j hj⟩
def aU.nN{ex:List Nat}{σ:St}{h:Tr Bk}{n b:Nat}(hf:aU ex σ ⟨h,n⟩)(h1:σ.aj<=b\/b∈ex):aU ex σ ⟨hdel h b,n⟩:=
 ⟨hf.le,λj hj=>by
  show hdel h b j=none;rw[TY];split
  .rfl
  .exact hf.wf j hj,λj hj hx=>by
  show hdel h b j=_;rw[iF _ _ _ (λe=>by grind)];exact hf.old j hj hx⟩
def aS:Nat->Nat->B
 |0,_=>.aW
 |n+1,b=>.sl b 0 (n+1) .opn
def kH:Nat->Tr Bk->Nat->Tr Bk
 |0,h,_=>h
 |_+1,h,b=>hdel h b
def yt:Nat->Tr Bk->Nat->Option Bk
 |0,_,_=>none
 |_+1,h,b=>h b
def gF(n:Nat)(G:Nat->List B)(e ty:Nat):Option Bk:=match n with
 |0=>none
 |n+1=>some ⟨bV (n+1) G,some (e,ty)⟩
def LG(G:Nat->List B)(e:Nat):Prop:=∀j,(G j).length=e
def apF(ty iy bytes n m:Nat)(news:List B)(b:Nat)(h:Tr Bk)(nx:Nat)(k:Option Bk):Option (V×St):=match n with
 |0=>sK ty iy bytes (.c .aW) m news ⟨h,nx⟩
 |n+1=>apK ty iy bytes (n+1) m news b h nx k
theorem KP(n b:Nat):(aS n b).kn=true:=by cases n<;>rfl
def Ho(n b:Nat):lenV (.c (aS n b))=some (.c (.int .i64 (.ofNat n))):=by cases n<;>rfl
theorem dX(n:Nat)(h:Tr Bk)(b j:Nat)(e:n=0\/j≠b):kH n h b j=h j:=by
 cases n with
 |zero=>rfl
 |succ n=>exact iF _ _ _ jb
def al3(k:Nat)(h:Tr Bk)(b j o n:Nat)(g:Bool)(e:k=0\/j≠b):ld (kH k h b) j o n g=ld h j o n g:=by grind[ld,dX]
theorem wF{n:Nat}{h h':Tr Bk}{b:Nat}(e:n=0\/h' b=h b):yt n h' b=yt n h b:=by
 cases n with
 |zero=>rfl
 |succ n=>exact e.resolve_left jb
def ahh(n:Nat)(h:Tr Bk)(j b:Nat)(k:Bk)(e:n=0\/b≠j):yt n (hset h j k) b=yt n h b:=wF (by grind[au])
def ahi(σ:St)(h1:0<m):sK ty iy bytes (.c (aS n b)) m news σ=apF ty iy bytes n m news b σ.h σ.aj (yt n σ.h b):=by
 cases n with
 |zero=>rfl
 |succ n=>exact QI σ h1
def arf{G:Nat->List B}(h1:0<m)(h2:0<iy)(h3:(n+m)*bytes<=140737488355328)(h4:n+m<=1073741824)(hG:LG G iy):apF ty iy bytes n m news b h nx (gF n G iy ty)=some (.c (.sl nx 0 (n+m) .opn),⟨hset (kH n h b) nx ⟨bV n G++news,some (iy,ty)⟩,nx+1⟩):=by
 cases n with
 |zero=>
  rw[cP]at h3 h4⊢
  exact QH h1 h2 h3 h4
 |succ n=>
  show apK ty iy bytes (n+1) m news b h nx (some ⟨bV (n+1) G,some (iy,ty)⟩)=_
  rw[WW h2 h3 h4 (by rw[qP hG];omega),<-qP (n:=n+1) hG,cC]
  rfl
def Fr.kH{σ:St}{h:Tr Bk}{n b k:Nat}(hf:Fr σ ⟨h,n⟩)(h1:k=0\/σ.aj<=b):Fr σ ⟨Xe.kH k h b,n⟩:=by
 cases k with
 |zero=>exact hf
 |succ k=>exact Fr.nN hf jb
def aU.kH{ex:List Nat}{σ:St}{h:Tr Bk}{n b k:Nat}(hf:aU ex σ ⟨h,n⟩)(h1:σ.aj<=b\/b∈ex):aU ex σ ⟨Xe.kH k h b,n⟩:=by
 cases k with
 |zero=>exact hf
 |succ k=>exact aU.nN hf h1
attribute [go_sem] KP Ho dX al3 ahh ahi arf
def Fr.up{σ σ':St}{n:Nat}(hf:Fr σ σ')(hn:σ'.aj<=n):Fr σ ⟨σ'.h,n⟩:=⟨aw hf.le hn,λb hb=>hf.wf b (aw hn hb),hf.old⟩
def Fr.oz{σ:St}{h:Tr Bk}{n n':Nat}{k:Bk}(hf:Fr σ ⟨h,n⟩)(hn:n<n'):Fr σ ⟨hset h n k,n'⟩:=Fr.up (Fr.new1 hf) hn
theorem fr{σ σ':St}(h:Fr σ σ':=by repeat(first|assumption|exact Fr.refl (by assumption)|exact Fr.up (by assumption) kf|exact Fr.up (Fr.refl (by assumption)) kf|refine Fr.set1 ?_ kf kf|refine Fr.kH ?_ kf|refine Fr.nN ?_ kf|refine Fr.oz ?_ kf)):Fr σ σ':=h
def aU.up{ex:List Nat}{σ σ':St}{n:Nat}(hf:aU ex σ σ')(hn:σ'.aj<=n):aU ex σ ⟨σ'.h,n⟩:=⟨aw hf.le hn,λb hb=>hf.wf b (aw hn hb),hf.old⟩
def aU.oz{ex:List Nat}{σ:St}{h:Tr Bk}{n n':Nat}{k:Bk}(hf:aU ex σ ⟨h,n⟩)(hn:n<n'):aU ex σ ⟨hset h n k,n'⟩:=aU.up (aU.new1 hf) hn
def aC.st{E:Env}{f:Nat}{args:List V}{σ:St}{K:V->St->Prop}(P:St->Prop)(h:P σ)(h2:P σ->aC E f args σ K):aC E f args σ K:=h2 h
def bM.st{E:Env}{c:AC}{tm:Tr V}{σ:St}{Q:AX->Tr V->St->Prop}(P:St->Prop)(h:P σ)(h2:P σ->bM E c tm σ Q):bM E c tm σ Q:=h2 h
theorem QJ{e:Nat}{l:List B}:∀{n:Nat}{o:Nat}{G:Nat->List B},(∀i,i<n->zJ l (o+i*e) e true=some (.agg (G i)))->(l.drop o).take (n*e)=bV n G/\(bV n G).length=n*e/\(bV n G).all B.kn=true
 |0,o,G,_=>by rw[ir,cL];exact⟨rfl,rfl,rfl⟩
 |n+1,o,G,h=>by
  have h0:=h 0 jb;rw[ir,cE]at h0;unfold zJ at h0;dsimp only at h0;cases hx:(Nat.beq ((l.drop o).take e).length e&&((l.drop o).take e).all B.kn)with
  |false=>grind
  |true=>
   rw[hx]at h0
   have e0:(l.drop o).take e=G 0:=by grind
   rw[af]at hx
   have hl:=ap hx.1
   obtain⟨h1,h2,h3⟩:=QJ (o:=o+e) (n:=n) (G:=λi=>G (i+1)) λi hi=>by have:=h (i+1) jb;rw[cB,fo (i*e),<-Nat.add_assoc]at this;exact this
   refine⟨?_,?_,?_⟩
   .unfold bV
    rw[<-e0,<-h1,<-List.drop_drop,cB,fo (n*e),List.take_add]
   .unfold bV
    rw[aD,h2,<-e0,hl,cB,fo]
   .unfold bV
    rw[List.all_append,h3,<-e0,hx.2];rfl
def QL{h:Tr Bk}{e b o n:Nat}{G:Nat->List B}(hn:0<n)(hl:∀i,i<n->ld h b (o+i*e) e true=some (.agg (G i))):∃k,h b=some k/\k.rd=true/\(k.cells.drop o).take (n*e)=bV n G/\(bV n G).length=n*e/\(bV n G).all B.kn=true:=by grind[Go.Proofs.Xe.ld,Go.Proofs.Xe.QJ]
def aeb(n:Nat)(f:Nat->Rat):(bZ n f).take (n*3)=bZ n f:=by grind[NG]
def aec(n:Nat)(g:Nat->B):(ones n g).take (n*1)=ones n g:=by grind[NH]
def ahj(n:Nat)(f:Nat->Rat):n*3<=(bZ n f).length:=by grind[NG]
def al4(h1:0<m)(h2:0<iy)(h3:m*bytes<=140737488355328)(h4:m<=1073741824):sK ty iy bytes (.c (.sl b 0 0 (.ex 0))) m news ⟨hset h b ⟨[],none⟩,nx⟩=some (.c (.sl nx 0 m .opn),⟨hset (hset h b ⟨[],none⟩) nx ⟨news,some (iy,ty)⟩,nx+1⟩):=ZR (aA _ _ _) h1 h2 h3 h4
def ZT:∀{n:Nat}{G:Nat->List B},(∀j,(G j).all B.kn=true)->(bV n G).all B.kn=true
 |0,_,_=>rfl
 |n+1,G,h=>by unfold bV;rw[List.all_append,h 0,ZT λj=>h (j+1)];rfl
def al5(n:Nat)(f:Nat->Rat):(bZ n f).all B.kn=true:=ZT λ_=>rfl
def auQ:((Int.ofNat 1:Int):Rat)=1:=rfl
def auR:((Int.ofNat 0:Int):Rat)=0:=rfl
attribute [go_sem] al4 al5 Bool.not_true Bool.not_false auQ auR iF arb ad8 auP ad9 al2 ahe ahg ZP ZQ QI WW aea aeb aec NG NH ad7
end Go.Proofs.Xe
namespace Go.Proofs.Xe
open Go.RowKit Go.Proofs.Ins
def NI(k:IntKind)(v:V):Option V:=match v with|.c (.int _ n)=>bif IW k n then some (.c (.int k n))else some (.c (.int k (k.wrap n)))|_=>none
def arh(E:Env)(tm:Tr V)(σ:St)(K:V->St->Prop)(k:IntKind)(x:O):wpOp E (.conv k x) tm σ K=F8 (NI k (x.ev tm)) λv=>K v σ:=iE _ _ _ _ rfl λ_ _ h=>by cases h
def abH{k j:IntKind}{n:Int}(h:k.wrap n=n):NI k (.c (.int j n))=some (.c (.int k n)):=by grind[NI]
def ari(j:IntKind)(a:Nat)(h:a<=9223372036854775807):NI .i64 (.c (.int j (.ofNat a)))=some (.c (.int .i64 (.ofNat a))):=abH (by grind[IntKind.wrap_i64])
def arj(j:IntKind)(a:Nat)(h:a<=18446744073709551615):NI .u64 (.c (.int j (.ofNat a)))=some (.c (.int .u64 (.ofNat a))):=abH (by grind[IntKind.wrap_u64])
def ark(j:IntKind)(a:Nat):NI .u16 (.c (.int j (.ofNat a)))=some (.c (.int .u16 (.ofNat (a%65536)))):=by rfl
theorem CV(op:BinOp)(k:IntKind)(a b:Int):nT op (.c (.int k a)) (.c (.int k b))=Tj op k a b:=by unfold nT;simp
def auS(k:IntKind)(a b:Nat)(h:0<b):nT .rem (.c (.int k (.ofNat a))) (.c (.int k (.ofNat b)))=some (.c (.int k (.ofNat (a%b)))):=by grind[CV,Tj,BI]
def ahk(k:IntKind)(a b:Nat)(h:0<b)(hw:k.wrap (Int.ofNat (a/b))=Int.ofNat (a/b)):nT .quo (.c (.int k (.ofNat a))) (.c (.int k (.ofNat b)))=some (.c (.int k (.ofNat (a/b)))):=by grind[CV,Tj,BI]
def wG(a b m:Nat)(h:a<=m):a/b<=m:=aw (fX _ _) h
def aed(a b:Nat)(h:0<b)(h2:a<=9223372036854775807):nT .quo (.c (.int .i64 (.ofNat a))) (.c (.int .i64 (.ofNat b)))=some (.c (.int .i64 (.ofNat (a/b)))):=ahk _ _ _ h (by have:=wG a b _ h2;grind[IntKind.wrap_i64])
def aee(a b:Nat)(h:0<b)(h2:a<=65535):nT .quo (.c (.int .u16 (.ofNat a))) (.c (.int .u16 (.ofNat b)))=some (.c (.int .u16 (.ofNat (a/b)))):=ahk _ _ _ h (by have:=wG a b _ h2;grind[IntKind.wrap_u16])
def al6(k:IntKind)(a b:Nat)(ha:a<2^k.bits)(hb:b<2^k.bits):(BitVec.ofInt k.bits (Int.ofNat a)&&&BitVec.ofInt k.bits (Int.ofNat b)).toNat=a&&&b:=by grind
def aef(a b:Nat)(ha:a<=9223372036854775807)(hb:b<=9223372036854775807):nT .and (.c (.int .i64 (.ofNat a))) (.c (.int .i64 (.ofNat b)))=some (.c (.int .i64 (.ofNat (a&&&b)))):=by rw[CV];unfold Tj BI;dsimp only;rw[al6 .i64 a b (by show a<18446744073709551616;omega) (by show b<18446744073709551616;omega),IntKind.wrap_i64];grind[Nat.and_le_left]
def aeg(a b:Nat):nT .add (.c (.int .u16 (.ofNat a))) (.c (.int .u16 (.ofNat b)))=some (.c (.int .u16 (.ofNat ((a+b)%65536)))):=by rfl
def aeh(a b:Nat):nT .mul (.c (.int .u16 (.ofNat a))) (.c (.int .u16 (.ofNat b)))=some (.c (.int .u16 (.ofNat (a*b%65536)))):=by rfl
def auT(a b:Nat)(h:a*b<=9223372036854775807):nT .mul (.c (.int .i64 (.ofNat a))) (.c (.int .i64 (.ofNat b)))=some (.c (.int .i64 (.ofNat (a*b)))):=by show mkI .i64 (Int.ofNat a*Int.ofNat b)=_;rw[show Int.ofNat a*Int.ofNat b=Int.ofNat (a*b)from rfl,TP h]
def auU(k j:IntKind)(a c:Nat):nT .shr (.c (.int k (.ofNat a))) (.c (.int j (.ofNat c)))=some (.c (.int k (.ofNat (a/2^min c k.bits)))):=by
 have e:nT .shr (.c (.int k (.ofNat a))) (.c (.int j (.ofNat c)))=Zo .shr k (.ofNat a) (.ofNat c):=by
  unfold nT;dsimp only;by_cases h:k=j
  .subst h;rw[be rfl];rfl
  grind
 rw[e];unfold Zo;grind
def ahl:IntKind.bits .i64=64:=rfl
def ahm:IntKind.bits .u16=16:=rfl
def ahn:IntKind.bits .u64=64:=rfl
def arl(k:IntKind)(a b:Int):nT .eql (.c (.int k a)) (.c (.int k b))=some (.c (.bool (decide (a=b)))):=by rw[CV];rfl
def arn(k:IntKind)(a b:Int):nT .neq (.c (.int k a)) (.c (.int k b))=some (.c (.bool (!decide (a=b)))):=by rw[CV];rfl
attribute [go_sem] arh ari arj ark auS aed aee aef aeg aeh auT auU ahl ahm ahn arl arn
end Go.Proofs.Xe
end
