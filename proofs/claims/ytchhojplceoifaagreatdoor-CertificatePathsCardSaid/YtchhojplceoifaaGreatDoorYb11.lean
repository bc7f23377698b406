import Derived.Test.YtchhojplceoifaaGreatDoorYb10
import Derived.Attr
set_option linter.all false
noncomputable section
namespace Go.Proofs.Xe
open Go.RowKit Go.Proofs.Ins
section
variable {E:Env}
theorem alG{n:Nat}{op:vU}{tm:Tr V}{σ σ':St}{v:V}{K:V->St->Prop}(h:oQ (jc E n) op tm σ=some (v,σ'))(hk:K v σ'):wpOp E op tm σ K:=by
 unfold wpOp;split
 .next g args=>
  unfold oQ at h;simp only[vU.kind]at h;split at h
  .next f a e=>
   unfold abo at e;cases hg:g.ev tm with
   |fn f' caps=>
    dsimp only at e
    rw[hg]at e
    obtain⟨rfl,rfl⟩:=Prod.mk.inj (eA e)
    exact⟨n,v,σ',h,hk⟩
   |_=>grind
  .cases h
 .next hne=>
  have e:oQ (λ_ _ _=>none) op tm σ=oQ (jc E n) op tm σ:=by
   unfold oQ;cases hk2:op.kind with
   |c=>cases op<;>simp only[vU.kind,reduceCtorEq]at hk2;grind
   |_=>rfl
  grind
def agU{n:Nat}{o:AO}{tm:Tr V}{σ σ':St}{v:V}{K:V->St->Prop}(h:stepG (jc E n) o tm σ=some (v,σ'))(hk:K v σ'):wpG E o tm σ K:=by grind[wpG,stepG,alG]
theorem WO{n:Nat}:∀{l:List AO}{tm tm':Tr V}{σ σ':St}{Q:Tr V->St->Prop},sN (jc E n) l tm σ=some (tm',σ')->Q tm' σ'->wpOps E l tm σ Q
 |[],_,_,_,_,_,h,hq=>by cases h;exact hq
 |o::l,tm,tm',σ,σ',Q,h,hq=>by
  unfold sN at h;split at h
  .next v σ1 e=>
   rw[KO]at h;exact agU e (WO h hq)
  .cases h
theorem agV{n:Nat}{pt:List (List Nat)}{dR bV:Tr V}:∀{d:Dr}{σ σ':St}{res:List Rs}{pd:List iT}{tm':Tr V}{Q:Tr V->St->Prop},Ci (jc E n) pt dR bV d σ res pd=some (tm',σ')->Q tm' σ'->Wx E pt dR bV d σ res pd Q
 |.fin qs,σ,σ',res,pd,tm',Q,h,hq=>by grind[Go.Proofs.Xe.Ci,Go.Proofs.Xe.Wx]
 |.act qs x r,σ,σ',res,pd,tm',Q,h,hq=>by
  unfold Ci at h;unfold Wx;split at h
  .next σ1 res1 pd1 e=>
   rw[e];dsimp only;cases hb:pd1.all (again σ1)with
   |false=>rw[hb]at h;cases h
   |true=>
    rw[hb]at h
    simp only[cC]at h
    refine⟨rfl,?_⟩
    split at h
    .next VG e2=>
     rw[e2]
     dsimp only
     split at h
     .next v σ2 e3=>exact agU e3 (agV h hq)
     .cases h
    .cases h
  .cases h
end
section
variable (E:Env) (tm:Tr V) (σ:St) (Q:AX→Tr V→St→Prop)
def aqG(l:List AO):bM E (.ops l) tm σ Q=wpOps E l tm σ λtm' σ'=>Q .normal tm' σ':=by
 refine propext ⟨?_,ak3⟩;rintro⟨n,e,tm',σ',h,hq⟩;cases n with
 |zero=>grind[exec]
 |succ n=>
  simp only[exec,VW]at h
  grind[WO]
def auA(d:Dr)(pt:List (List Nat))(ds:List Nat):bM E (.drawn d pt ds) tm σ Q=Wx E pt tm (ZI tm ds) d σ [] [] λtm' σ'=>Q .normal tm' σ':=by
 refine propext ⟨?_,aqF⟩;rintro⟨n,e,tm',σ',h,hq⟩;cases n with
 |zero=>grind[exec]
 |succ n=>
  simp only[exec,xDr,VW,Jd]at h
  grind[agV]
def seq_eq(a b:AC):bM E (.seq a b) tm σ Q=bM E a tm σ (TL E b Q):=by
 refine propext ⟨?_,run_seq⟩;rintro⟨n,e,tm',σ',h,hq⟩;cases n with
 |zero=>grind[exec]
 |succ n=>
  rw[exec]at h
  cases hx:exec E n a tm σ with
  |none=>rw[hx]at h;cases h
  |some q=>
   rw[hx]at h
   obtain⟨e1,IU,σ1⟩:=q
   refine⟨n,e1,IU,σ1,hx,?_⟩
   cases e1 with
   |normal=>exact⟨n,e,tm',σ',h,hq⟩
   |exit i=>cases h;exact hq
   |ret=>cases h;exact hq
def agW(i:Nat)(a:AC):bM E (.block i a) tm σ Q=bM E a tm σ (agj i Q):=by
 refine propext ⟨?_,Ec⟩;rintro⟨n,e,tm',σ',h,hq⟩;cases n with
 |zero=>grind[exec]
 |succ n=>
  rw[exec]at h
  cases hx:exec E n a tm σ with
  |none=>rw[hx]at h;cases h
  |some q=>
   rw[hx]at h
   obtain⟨e1,IU,σ1⟩:=q
   refine⟨n,e1,IU,σ1,hx,?_⟩
   cases e1 with
   |normal=>cases h;exact hq
   |exit j=>cases h;exact hq
   |ret=>cases h;exact hq
def alH:bM E .skip tm σ Q=Q .normal tm σ:=by
 refine propext ⟨?_,Wu⟩;rintro⟨n,e,tm',σ',h,hq⟩;cases n with
 |zero=>grind[exec]
 |succ n=>grind[exec]
def alI(i:Nat):bM E (.exit i) tm σ Q=Q (.exit i) tm σ:=by
 refine propext ⟨?_,agh⟩;rintro⟨n,e,tm',σ',h,hq⟩;cases n with
 |zero=>grind[exec]
 |succ n=>grind[exec]
def aqH:bM E .ret tm σ Q=Q .ret tm σ:=by
 refine propext ⟨?_,ak1⟩;rintro⟨n,e,tm',σ',h,hq⟩;cases n with
 |zero=>grind[exec]
 |succ n=>grind[exec]
def ifV(v:V)(P:Bool->Prop):Prop:=match v with|.c (.bool t)=>P t|_=>False
def alJ(x:O)(a b:AC):bM E (.cond x a b) tm σ Q=ifV (x.ev tm) λt=>bM E (bif t then a else b) tm σ Q:=by
 refine propext ⟨?_,λh=>?_⟩
 .rintro⟨n,e,tm',σ',h,hq⟩;cases n with
  |zero=>grind[exec]
  |succ n=>
   simp only[exec,abq]at h
   split at h
   .next t e=>rw[e];exact⟨n,_,_,_,h,hq⟩
   .cases h
 .unfold ifV at h;grind[agi]
def aqI(a b:AC):bM E (bif true then a else b) tm σ Q=bM E a tm σ Q:=rfl
def aqJ(a b:AC):bM E (bif false then a else b) tm σ Q=bM E b tm σ Q:=rfl
def alK(a b:AC):bM E (bif !true then a else b) tm σ Q=bM E b tm σ Q:=rfl
def alL(a b:AC):bM E (bif !false then a else b) tm σ Q=bM E a tm σ Q:=rfl
def agX(n:Nat)(b:AC)(r:List (Nat×Option (Nat×Bool))):bM E (AF.body ⟨n,b,r⟩) tm σ Q=bM E b tm σ Q:=rfl
def agY(P:Bool->Prop):ifV (.c (.bool true)) P=P true:=rfl
def ad1(P:Bool->Prop):ifV (.c (.bool false)) P=P false:=rfl
def alM(b:Bool)(P:Bool->Prop):ifV (.c (.bool (!b))) P=ifV (.c (.bool b)) λt=>P (!t):=rfl
def aH{p:Prop}[Decidable p]{P:Bool->Prop}(h1:p->P true)(h2:¬p->P false):ifV (.c (.bool (decide p))) P:=by
 show P (decide p);by_cases h:p
 .grind
 grind
def auB{b:Bool}{P:Bool->Prop}(h1:b=true->P true)(h2:b=false->P false):ifV (.c (.bool b)) P:=by
 show P b;cases b with
 |true=>grind
 |false=>grind
def tick:Prop:=∀n:Nat,n=n
def ad2:tick=True:=propext ⟨λ_=>trivial,λ_ _=>rfl⟩
@[congr] theorem ato {z:Prop} {v v' : V} {P:Bool→Prop} (hz:tick=z) (h:v=v'):ifV v P=ifV v' P:=by rw [h]
@[congr] theorem atp {z:Prop} {v v' : Option V} {P:V→Prop} (hz:tick=z) (h:v=v'):F9 v P=F9 v' P:=by rw [h]
@[congr] theorem aqK {z:Prop} {c:AC} {tm tm' : Tr V} {σ σ' : St} {Q:AX→Tr V→St→Prop} (hz:tick=z) (h:tm=tm') (h2:σ=σ'):bM E c tm σ Q=bM E c tm' σ' Q:=by rw [h,h2]
@[congr] theorem aoB {z:Prop} {c:List AO} {tm tm' : Tr V} {σ σ' : St} {Q:Tr V→St→Prop} (hz:tick=z) (h:tm=tm') (h2:σ=σ'):wpOps E c tm σ Q=wpOps E c tm' σ' Q:=by rw [h,h2]
@[congr] theorem atq {z:Prop} {c:AO} {tm tm' : Tr V} {σ σ' : St} {Q:V→St→Prop} (hz:tick=z) (h:tm=tm') (h2:σ=σ'):wpG E c tm σ Q=wpG E c tm' σ' Q:=by rw [h,h2]
@[congr] theorem aqL {z:Prop} {c:vU} {tm tm' : Tr V} {σ σ' : St} {Q:V→St→Prop} (hz:tick=z) (h:tm=tm') (h2:σ=σ'):wpOp E c tm σ Q=wpOp E c tm' σ' Q:=by rw [h,h2]
@[congr] theorem aoC {z:Prop} {f:Nat} {a a' : List V} {σ σ' : St} {Q:V→St→Prop} (hz:tick=z) (h:a=a') (h2:σ=σ'):aC E f a σ Q=aC E f a' σ' Q:=by rw [h,h2]
@[congr] theorem atr {z:Prop} {dR bV:Tr V} {qs:List DO} {σ σ' : St} {res res' : List Rs} {pd pd' : List iT} {K:St→List Rs→List iT→Prop} (hz:tick=z) (h2:σ=σ') (h3:res=res') (h4:pd=pd'):uY dR bV qs σ res pd K=uY dR bV qs σ' res' pd' K:=by grind
@[congr] theorem att {z:Prop} {pt:List (List Nat)} {dR bV:Tr V} {d:Dr} {σ σ' : St} {res res' : List Rs} {pd pd' : List iT} {K:Tr V→St→Prop} (hz:tick=z) (h2:σ=σ') (h3:res=res') (h4:pd=pd'):Wx E pt dR bV d σ res pd K=Wx E pt dR bV d σ' res' pd' K:=by grind
@[congr] theorem atu {z:Prop} {σ σ' : St} {pd pd' : List iT} (hz:tick=z) (h:σ=σ') (h2:pd=pd'):agn σ pd=agn σ' pd':=by rw [h,h2]
@[congr] theorem aqM {z:Prop} {i i' : Nat} {o:AO} {tm:Tr V} {v:V} {g:Bool} {nm:Option Nat} (hz:tick=z) (h:i=i'):iT.mk i o tm v g nm=iT.mk i' o tm v g nm:=by rw [h]
@[congr] theorem aoD {z:Prop} {σ σ' : St} {p:iT} (hz:tick=z) (h:σ=σ'):again σ p=again σ' p:=by rw [h]
@[congr] theorem atv {z:Prop} {dR bV:Tr V} {res:List Rs} {us us' os:List Nat} (hz:tick=z) (h:us=us'):MV dR bV res us os=MV dR bV res us' os:=by rw [h]
@[congr] theorem aqN {z:Prop} {bV:Tr V} {res:List Rs} {us us' : List Nat} (hz:tick=z) (h:us=us'):I4 bV res us=I4 bV res us':=by rw [h]
@[congr] theorem atw {z:Prop} {res:List Rs} {u u' : Nat} (hz:tick=z) (h:u=u'):fnd res u=fnd res u':=by rw [h]
@[congr] theorem aoE {z:Prop} {dR tm:Tr V} {os os' : List Nat} (hz:tick=z) (h:os=os'):E5 dR tm os=E5 dR tm os':=by rw [h]
@[congr] theorem aqO {z:Prop} {g:Option (Nat×Bool)} {tm:Tr V} {A B:Prop} (hz:tick=z):BK g tm A B=BK g tm A B:=rfl
@[congr] theorem atx {z:Prop} {v v' : V} {b:Bool} {A B:Prop} (hz:tick=z) (h:v=v'):gsV v b A B=gsV v' b A B:=by rw [h]
@[congr] theorem auC {z:Prop} {g:Option (Nat×Bool)} {dR bV:Tr V} {res:List Rs} {us os:List Nat} {σ:St} {pd:List iT} {i:Nat} {d:Option Nat} {op:vU} {l:List DO} {K:St→List Rs→List iT→Prop} (hz:tick=z):qR g dR bV res us os σ pd i d op l K=qR g dR bV res us os σ pd i d op l K:=rfl
def alN(E:Env)(d:Option Nat)(g:Option (Nat×Bool))(op:vU)(tm:Tr V)(σ:St)(K:V->St->Prop):wpG E ⟨d,g,op⟩ tm σ K=BK g tm (wpOp E op tm σ K) (K .tnil σ):=rfl
def aqP(x:O)(K:V->St->Prop):wpOp E (.mov x) tm σ K=F9 (some (x.ev tm)) λv=>K v σ:=rfl
def aqQ(b:AC):TL E b Q .normal tm σ=bM E b tm σ Q:=rfl
def aqR(b:AC)(i:Nat):TL E b Q (.exit i) tm σ=Q (.exit i) tm σ:=rfl
def aqS(b:AC):TL E b Q .ret tm σ=Q .ret tm σ:=rfl
def aqT(i:Nat):agj i Q .normal tm σ=Q .normal tm σ:=rfl
def aqU(i j:Nat):agj i Q (.exit j) tm σ=Q (bif Nat.beq j i then .normal else .exit j) tm σ:=rfl
def aqV(i:Nat):agj i Q .ret tm σ=Q .ret tm σ:=rfl
variable (I:Nat→Tr V→St→Prop) (m:Nat) (res:List (Nat×Option (Nat×Bool))) (K:V→St→Prop)
def aqW:ak2 I m Q .normal tm σ=∃m',m'<m/\I m' tm σ:=rfl
def aqX(i:Nat):ak2 I m Q (.exit i) tm σ=Q (.exit i) tm σ:=rfl
def aqY:ak2 I m Q .ret tm σ=Q .ret tm σ:=rfl
def alO:ZE res K .normal tm σ=F9 (result tm σ res) λv=>K v σ:=by unfold ZE F9;grind
def aqZ:ZE res K .ret tm σ=F9 (result tm σ res) λv=>K v σ:=by unfold ZE F9;grind
end
def aq0(p q:Rat):decide (oO p q<0)=decide (p<q):=by
 by_cases h:p<q
 .rw[aM h,aM];exact qH.mpr h
 .rw[aw h,aw];exact λe=>h (qH.mp e)
def agZ(tm:Tr V)(d:Nat)(v:V):Tr.get (EC tm (some d) v) d=some v:=by grind[EC,Tr.uj]
def aq1(tm:Tr V)(d j:Nat)(v:V)(h:j≠d):Tr.get (EC tm (some d) v) j=Tr.get tm j:=by grind[EC,Tr.uj]
def ZM(tm:Tr V)(σ:St):pI tm σ []=some .tnil:=rfl
def ag0(tm:Tr V)(σ:St)(t:Nat)(r:List (Nat×Option (Nat×Bool))):pI tm σ ((t,none)::r)=match tm.get t,pI tm σ r with|some v,some w=>some (.aV v w)|_,_=>none:=rfl
def ag1(tm:Tr V)(σ:St)(t n:Nat)(g:Bool)(r:List (Nat×Option (Nat×Bool))):pI tm σ ((t,some (n,g))::r)=match(match tm.ah t with|.c (.ptr b o)=>ld σ.h b o n g|_=>none),pI tm σ r with|some v,some w=>some (.aV v w)|_,_=>none:=rfl
def Fr.new1{σ:St}{h:Tr Bk}{n:Nat}{k:Bk}(hf:Fr σ ⟨h,n⟩):Fr σ ⟨hset h n k,n+1⟩:=Fr.new hf k
def Fr.set1{σ:St}{h:Tr Bk}{n b:Nat}{k:Bk}(hf:Fr σ ⟨h,n⟩)(h1:σ.aj<=b)(h2:b<n):Fr σ ⟨hset h b k,n⟩:=Fr.set hf h1 h2 k
def ak{h:Tr Bk}{b:Nat}{k:Bk}(e:h b=some k)(o n:Nat)(g:Bool):ld h b o n g=bif k.rd then zJ k.cells o n g else none:=by unfold ld;rw[e]
def aI{h:Tr Bk}{b:Nat}{k:Bk}(e:h b=some k)(o:Nat)(vs:List B):sto h b o vs=match bif k.pl then yE k.cells o vs else none with|some l=>some (hset h b ⟨l,k.opn⟩)|none=>none:=by grind[sto]
def plo(o:Option (Nat×Nat)):Bool:=match o with|some (0,_)=>false|_=>true
def YR(o:Option (Nat×Nat)):Bool:=match o with|some (0,t)=>Nat.beq t 1|_=>true
def aq2(k:Bk):k.pl=plo k.opn:=rfl
def NG(k:Bk):k.rd=YR k.opn:=rfl
def ag2:plo none=true:=rfl
def ag3:YR none=true:=rfl
def aoF(e t:Nat)(h:e≠0):plo (some (e,t))=true:=by cases e with|zero=>omega|succ e=>rfl
def Fb(e t:Nat)(h:e≠0):YR (some (e,t))=true:=by cases e with|zero=>omega|succ e=>rfl
def auD:YR (some (0,1))=true:=rfl
def ag4(k:IntKind)(n:Int):B.kn (.int k n)=true:=rfl
theorem Aw(b:Bool):B.kn (.bool b)=true:=rfl
theorem FD(s:ByteArray):B.kn (.str s)=true:=rfl
def aq3(b o:Nat):B.kn (.ptr b o)=true:=rfl
def alP:B.kn .Tf=true:=rfl
def auE(b o n:Nat)(c:Cap):B.kn (.sl b o n c)=true:=rfl
def alQ:B.kn .aX=true:=rfl
def auF(b:Nat):B.kn (.mp b)=true:=rfl
def HL.kn{h:Tr Bk}{e:Nat}{v:B}{n:Nat}{G:Nat->List B}(hl:HL h e v n G):v.kn=true:=by rcases hl with⟨-,rfl⟩|⟨b,o,c,rfl,-⟩<;>rfl
def HC.kn{h:Tr Bk}{v:B}{n:Nat}{G:Nat->B}(hl:HC h v n G):v.kn=true:=by rcases hl with⟨-,rfl⟩|⟨b,o,c,rfl,-⟩<;>rfl
def auG(x:B)(l:List B)(o n:Nat):zJ (x::l) o n true=bif Nat.beq (((x::l).drop o).take n).length n&&(((x::l).drop o).take n).all B.kn then some (.agg (((x::l).drop o).take n))else none:=rfl
def auH(x:B)(l:List B)(o n:Nat):zJ (x::l) o n false=match(x::l).drop o with|x::_=>bif x.kn then some (.c x)else none|[]=>none:=rfl
def auI(x:B)(l vs:List B):yE (x::l) 0 vs=bif Nat.ble vs.length (x::l).length then some (vs++(x::l).drop vs.length)else none:=by rw[yE]
def auJ(x:B)(l:List B)(o:Nat)(vs:List B):yE (x::l) (o+1) vs=match yE l o vs with|some r=>some (x::r)|none=>none:=by rfl
def ag5(a b:Nat):(Int.ofNat a=Int.ofNat b)=(a=b):=propext ⟨Int.ofNat.inj,λe=>by rw[e]⟩
def eq_neg(a b:Nat):(Int.ofNat a=Int.negSucc b)=False:=by simp
def auK[h:Decidable True]: @decide True h=true:=by simp
def auL[h:Decidable False]: @decide False h=false:=by simp
attribute [go_sem] ad2 alK alL aqI aqJ agX adR wpOps_cons agw ap6 o_load ala alb alc ap7 auh ap8 ap9 aqa aqb aui auj auk aul aum aun auo aqc aqd aup aoA auq ald ale aqe aus aur aut alf Ce aqf Zn auu ak9 adQ aqg alg auv aqh JU rep auw alh aqi axc axd adI ak7 adJ adK adL adM adN adO V.cells ak8 aug agv ap5 aA axe axf cV et Bool.and_true Bool.true_and List.drop_succ_cons io gh cL bO List.length_nil Nat.reduceAdd cD cE aby QG xB Ho au dw List.nil_append gN List.map_cons List.map_nil result agu aG alp alq alk aqr alu alx agG agI agK aqt aqv aqx agM agO aqz aqB aly agQ alA aqD agS alC alE adV alm aln aqj agz adS agA ali agB adT ZJ agC adU agy alo agD aqs alv agH agJ agL aqu aqw aqy agN agP aqA aqC alz agR alB aqE agT alD alF ZL WM adZ alr auy ZK adW List.contains_cons List.contains_nil Nat.reduceBEq Bool.or_false Bool.or_true Bool.false_or Bool.true_or cC fP List.getD_cons_zero List.getD_cons_succ am and_true alN aqk aql aqm aqn aqo aqp alj auz als aqP aqG auA seq_eq agW alH alI aqH alJ agY ad1 alM aqQ aqR aqS aqT aqU aqV aqW aqX aqY alO aqZ aq0 ag4 Aw FD aq3 alP auE alQ auF auG auH auI auJ ag5 eq_neg auK auL aq2 NG ag2 ag3 aoF Fb auD agZ aq1 ZM ag0 ag1 aud ZG ZH agt adH aue auf ap1 ags aub ap0 agq adG WG apY WC apZ WE adF auc ak5 abx ap2 WI ap3 ap4 ak6 WH
def bU:Nat->(Nat->List B)->List B
 |0,_=>[]
 |n+1,G=>G 0++bU n λi=>G (i+1)
def WQ{e:Nat}:∀{n:Nat}{G:Nat->List B}{i:Nat},(∀j,(G j).length=e)->i<n->∃r,(bU n G).drop (i*e)=G i++r
 |0,_,_,_,h=>jb
 |n+1,G,0,_,_=>⟨bU n λi=>G (i+1),by rw[ip];rfl⟩
 |n+1,G,i+1,hG,h=>by obtain⟨r,hr⟩:=WQ (G:=λi=>G (i+1)) (i:=i) (λj=>hG (j+1)) (by omega:i<n);refine⟨r,?_⟩;show(G 0++bU n λi=>G (i+1)).drop _=_;rw[cA,fo,<-hG 0,List.drop_length_add_append,hG 0];exact hr
def yX{e n i k m:Nat}{G:Nat->List B}(g:Bool)(hG:∀j,(G j).length=e)(h:i<n)(hk:k+m<=e)(hm:0<m):zJ (bU n G) (i*e+k) m g=zJ (G i) k m g:=by
 obtain⟨r,hr⟩:=WQ hG h;have hd:(bU n G).drop (i*e+k)=(G i).drop k++r:=by rw[<-List.drop_drop,hr,List.drop_append_of_le_length kd]
 have hl:((G i).drop k).length=e-k:=by grind
 unfold zJ;grind
def ag6:∀(p:List B) (l:List B) (o:Nat) (vs:List B),yE (p++l) (p.length+o) vs=match yE l o vs with|some r=>some (p++r)|none=>none
 |[],l,o,vs=>by grind
 |x::p,l,o,vs=>by rw[gN,bO,show p.length+1+o=(p.length+o)+1 by omega,yE,ag6 p l o vs];cases yE l o vs<;>rfl
def abB:∀(p:List B) (l:List B) (o:Nat) (vs:List B),o+vs.length<=p.length->yE (p++l) o vs=match yE p o vs with|some r=>some (r++l)|none=>none
 |p,l,0,vs,h=>by grind[yE,xB]
 |[],l,o+1,vs,h=>by simp at h
 |x::p,l,o+1,vs,h=>by rw[gN,yE,yE,abB p l o vs (by simp only[bO]at h;omega)];cases yE p o vs<;>rfl
def jl(G:Nat->List B)(i:Nat)(r:List B):Nat->List B:=λj=>if j=i then r else G j
def Az{e k:Nat}{vs:List B}:∀{n i:Nat}{G:Nat->List B},(∀j,(G j).length=e)->i<n->k+vs.length<=e->yE (bU n G) (i*e+k) vs=match yE (G i) k vs with|some r=>some (bU n (jl G i r))|none=>none
 |0,_,_,_,h,_=>jb
 |n+1,0,G,hG,_,hk=>by rw[ip,cD];show yE (G 0++_) k vs=_;rw[abB _ _ _ _ kd];rfl
 |n+1,i+1,G,hG,h,hk=>by
  show yE (G 0++bU n λi=>G (i+1)) _ vs=_;rw[show(i+1)*e+k=(G 0).length+(i*e+k) by rw[hG,cA];omega,ag6,Az (λj=>hG (j+1)) jb hk];cases yE (G (i+1)) k vs with
  |none=>rfl
  |some r=>
   show some _=some _
   congr 1
   show G 0++_=jl G (i+1) r 0++_
   congr 2
   funext j
   unfold jl
   simp only[Nat.add_right_cancel_iff]
theorem dA:∀{n:Nat}{G H:Nat->List B},(∀i,i<n->G i=H i)->bU n G=bU n H
 |0,_,_,_=>rfl
 |n+1,G,H,h=>by unfold bU;rw[h 0 jb,dA λi hi=>h (i+1) jb]
def KP(z:List B):∀n,rep z n=bU n λ_=>z
 |0=>rfl
 |n+1=>by unfold rep bU;rw[KP z n]
theorem l9:∀(n:Nat) (G:Nat->List B) (r:List B),bU n G++r=bU (n+1) (jl G n r)
 |0,G,r=>by grind[bU,jl]
 |n+1,G,r=>by rw[bU,ij,l9 n _ r];show _=jl G (n+1) r 0++bU (n+1) _;congr 2;funext j;unfold jl;simp only[Nat.add_right_cancel_iff]
def qP{e:Nat}:∀{n:Nat}{G:Nat->List B},(∀j,(G j).length=e)->(bU n G).length=n*e
 |0,_,_=>by simp[bU]
 |n+1,G,h=>by rw[bU,az,h,qP λj=>h (j+1),cA];omega
def yY{h:Tr Bk}{b o n:Nat}{cs:List B}(e:ld h b o n true=some (.agg cs))(k m:Nat)(g:Bool)(hk:k+m<=n)(hm:0<m):ld h b (o+k) m g=zJ cs k m g:=by
 unfold ld at e⊢;cases hb:h b with
 |none=>grind
 |some bk=>
  rw[hb]at e
  dsimp only at e⊢
  cases hr:bk.rd with
  |false=>grind
  |true=>
   rw[hr]at e
   simp only[cC]at e⊢
   unfold zJ at e
   dsimp only at e
   cases hx:(Nat.beq ((bk.cells.drop o).take n).length n&&((bk.cells.drop o).take n).all B.kn)with
   |false=>grind
   |true=>
    rw[hx]at e
    cases e
    rw[af]at hx
    have hl:=ap hx.1
    rw[dp]at hl
    unfold zJ
    cases g with
    |true=>
     grind[List.drop_take,List.drop_drop]
    |false=>
     dsimp only
     rw[List.drop_take,List.drop_drop]
     have hd:n-k=(n-k-1)+1:=jb
     grind
def AA{h:Tr Bk}{b o n:Nat}{cs:List B}(e:ld h b o n true=some (.agg cs))(m:Nat)(g:Bool)(hk:m<=n)(hm:0<m):ld h b o m g=zJ cs 0 m g:=yY e 0 m g jb hm
def ig(q:Rat):List B:=[.bool (rn q),.str (rs q),.str (rd q)]
def bY(n:Nat)(f:Nat->Rat):List B:=bU n λi=>ig (f i)
def aN{α:Type}(f:Nat->α)(i:Nat)(q:α):Nat->α:=λj=>if j=i then q else f j
def TU(n:Nat)(f:Nat->Rat)(i:Nat)(h:i<n):zJ (bY n f) (i*3) 3 true=some (.agg [.bool (rn (f i)),.str (rs (f i)),.str (rd (f i))]):=by unfold bY;have:=yX (e:=3) (k:=0) (m:=3) (G:=λi=>ig (f i)) true (λ_=>rfl) h jj jj;rw[cE]at this;rw[this];rfl
def alR(n:Nat)(f:Nat->Rat)(i:Nat)(q:Rat)(h:i<n):yE (bY n f) (i*3) [.bool (rn q),.str (rs q),.str (rd q)]=some (bY n (aN f i q)):=by unfold bY;have:=Az (e:=3) (k:=0) (vs:=ig q) (G:=λi=>ig (f i)) (λ_=>rfl) h (cQ 3);rw[cE]at this;show yE _ _ (ig q)=_;rw[this];show some _=some _;congr 2;funext j;unfold jl aN;split<;>rfl
theorem dH{n:Nat}{f g:Nat->Rat}(h:∀i,i<n->f i=g i):bY n f=bY n g:=dA λi hi=>by grind
def ag7(n:Nat):rep [.bool (rn 0),.str (rs 0),.str (rd 0)] n=bY n λ_=>0:=KP _ n
def ad3(n:Nat)(f:Nat->Rat)(q:Rat):bY n f++[.bool (rn q),.str (rs q),.str (rd q)]=bY (n+1) (aN f n q):=by unfold bY;rw[show [B.bool (rn q),.str (rs q),.str (rd q)]=ig q from rfl,l9];congr 1;grind[jl,aN]
theorem NH(n:Nat)(f:Nat->Rat):(bY n f).length=n*3:=qP λ_=>rfl
def ones(n:Nat)(g:Nat->B):List B:=bU n λi=>[g i]
def abC(n:Nat)(g:Nat->B)(i:Nat)(h:i<n):zJ (ones n g) (i*1) 1 false=bif (g i).kn then some (.c (g i))else none:=by unfold ones;have:=yX (e:=1) (k:=0) (m:=1) (G:=λi=>[g i]) false (λ_=>rfl) h jj jj;rw[cE]at this;rw[this];rfl
def alS(n:Nat)(g:Nat->B)(i:Nat)(x:B)(h:i<n):yE (ones n g) (i*1) [x]=some (ones n (aN g i x)):=by unfold ones;have:=Az (e:=1) (k:=0) (vs:=[x]) (G:=λi=>[g i]) (λ_=>rfl) h (cQ 1);rw[cE]at this;rw[this];show some _=some _;congr 2;grind[jl,aN]
def bH{n:Nat}{f g:Nat->B}(h:∀i,i<n->f i=g i):ones n f=ones n g:=dA λi hi=>by grind
def ag8(x:B)(n:Nat):rep [x] n=ones n λ_=>x:=KP _ n
theorem NI(n:Nat)(g:Nat->B):(ones n g).length=n*1:=qP λ_=>rfl
theorem aP{α:Type}(f:Nat->α)(i:Nat)(q:α):aN f i q i=q:=ab rfl
theorem aQ{α:Type}(f:Nat->α)(i j:Nat)(q:α)(h:j≠i):aN f i q j=f j:=ae h
def TV:Option V->Nat->Option Nat
 |none,d=>some d
 |some v,_=>JU v
def ag9(b:Option O)(tm:Tr V)(d:Nat):VT b tm d=TV (b.map (·.ev tm)) d:=by cases b<;>rfl
def TW(iy:Nat)(x:V)(lo hi mx:Option V):Option V:=
 match x with
 |.c (.sl b o n c)=>
  match TV lo 0,TV hi n with
  |some l,some h=>bif Nat.ble l h&&Nat.ble h n then
    match mx with
    |none=>(match c with
     |.ex k=>bif Nat.blt l k then some (.c (.sl b (o+l*iy) (h-l) (.ex (k-l))))else some (.c (.sl b o 0 .any))
     |.opn=>bif Nat.beq l 0 then some (.c (.sl b o h .opn))else bif Nat.blt l n then some (.c (.sl b (o+l*iy) (h-l) .any))else some (.c (.sl b o 0 .any))
     |.any=>bif Nat.blt l n then some (.c (.sl b (o+l*iy) (h-l) .any))else some (.c (.sl b o 0 .any)))
    |some y=>match JU y with
     |some q=>bif Nat.ble h q&&Nat.ble q n then bif Nat.beq l 0 then some (.c (.sl b o h (bif Nat.beq n 0 then .any else .ex q)))else none else none
     |none=>none
   else none
  |_,_=>none
 |.c .aX=>match TV lo 0,TV hi 0 with
  |some 0,some 0=>(match mx with|none=>some (.c .aX)|some y=>match JU y with|some 0=>some (.c .aX)|_=>none)
  |_,_=>none
 |_=>none
def WR(iy:Nat)(x:O)(lo hi mx:Option O)(tm:Tr V):MR iy x lo hi mx tm=TW iy (x.ev tm) (lo.map (·.ev tm)) (hi.map (·.ev tm)) (mx.map (·.ev tm)):=by unfold MR TW;simp only[sJ,ag9];cases mx<;>rfl
def alT(E:Env)(tm:Tr V)(σ:St)(K:V->St->Prop)(iy:Nat)(x:O)(lo hi mx:Option O):wpOp E (.slice iy x lo hi mx) tm σ K=F9 (TW iy (x.ev tm) (lo.map (·.ev tm)) (hi.map (·.ev tm)) (mx.map (·.ev tm))) λv=>K v σ:=by rw[iE _ _ _ _ (by rfl) λ_ _ h=>by cases h];show F9 (MR iy x lo hi mx tm) _=_;rw[WR]
def alU:B->Prop
 |.sl _ _ n (.ex k)=>n<=k
 |_=>True
def aq4{v:B}{n h:Nat}(hc:alU v)(hv:(n=0/\v=.aX)\/∃b o c,v=.sl b o n c/\0<n)(hh:h<=n)(iy:Nat):∃v',TW iy (.c v) none (some (.c (.int .i64 (.ofNat h)))) none=some (.c v')/\alU v'/\((n=0/\v'=.aX)\/∃b o c c',v=.sl b o n c/\v'=.sl b o h c'):=by
 rcases hv with⟨rfl,rfl⟩|⟨b,o,c,rfl,hn⟩
 .have:h=0:=jb;subst this;exact⟨.aX,rfl,trivial,.inl ⟨rfl,rfl⟩⟩
 .cases c with
  |ex k=>
   have hc:n<=k:=hc
   refine⟨.sl b o h (.ex k),?_,by show h<=k;omega,.inr ⟨b,o,_,_,rfl,rfl⟩⟩
   grind[TW,TV,JU,xB,Ho]
  |opn=>
   refine⟨.sl b o h .opn,?_,trivial,.inr ⟨b,o,_,_,rfl,rfl⟩⟩
   grind[TW,TV,JU,xB,aby]
  |any=>
   refine⟨.sl b o h .any,?_,trivial,.inr ⟨b,o,_,_,rfl,rfl⟩⟩
   grind[TW,TV,JU,xB,Ho]
attribute [go_sem] alT Option.map_some Option.map_none
attribute [go_sem] TU alR ag7 abC alS ag8
structure aU(ex:List Nat)(σ σ':St):Prop where
 le:σ.aj<=σ'.aj
 wf:WF σ'
 old:∀b,b<σ.aj->¬b∈ex->σ'.h b=σ.h b
def Fr.ex{σ σ':St}(h:Fr σ σ')(ex:List Nat):aU ex σ σ':=⟨h.le,h.wf,λb hb _=>h.old b hb⟩
theorem aU.refl{σ:St}{ex:List Nat}(h:WF σ):aU ex σ σ:=(Fr.refl h).ex ex
def aU.trans{ex:List Nat}{σ σ' J9:St}(h:aU ex σ σ')(h':aU ex σ' J9):aU ex σ J9:=⟨av h.le h'.le,h'.wf,λb hb hx=>(h'.old b (aE hb h.le) hx).trans (h.old b hb hx)⟩
def aU.to{ex:List Nat}{σ0 σ σ':St}(h:Fr σ0 σ)(he:aU ex σ σ')(hx:∀b∈ex,σ0.aj<=b):Fr σ0 σ':=⟨av h.le he.le,he.wf,λb hb=>(he.old b (aE hb h.le) λhm=>by grind).trans (h.old b hb)⟩
def aU.to'{ex ex':List Nat}{σ0 σ σ':St}(h:aU ex' σ0 σ)(he:aU ex σ σ')(hx:∀b∈ex,σ0.aj<=b\/b∈ex'):aU ex' σ0 σ':=⟨av h.le he.le,he.wf,λb hb hn=>(he.old b (aE hb h.le) λhm=>by grind).trans (h.old b hb hn)⟩
def aU.new1{ex:List Nat}{σ:St}{h:Tr Bk}{n:Nat}{k:Bk}(hf:aU ex σ ⟨h,n⟩):aU ex σ ⟨hset h n k,n+1⟩:=
 ⟨Nat.le_succ_of_le hf.le,λb hb=>by
  have hb:n+1<=b:=hb;show hset h n k b=none;rw[au _ _ _ _ jb];exact hf.wf b (show n<=b by omega),λb hb hx=>by
  show hset h n k b=_;have:σ.aj<=n:=hf.le;rw[au _ _ _ _ jb];exact hf.old b hb hx⟩
def aU.set1{ex:List Nat}{σ:St}{h:Tr Bk}{n b:Nat}{k:Bk}(hf:aU ex σ ⟨h,n⟩)(hb:σ.aj<=b\/b∈ex)(hb2:b<n):aU ex σ ⟨hset h b k,n⟩:=
 ⟨hf.le,λj hj=>by
  have hj:n<=j:=hj;show hset h b k j=none;rw[au _ _ _ _ jb];exact hf.wf j hj,λj hj hx=>by
  show hset h b k j=_;rw[au _ _ _ _ (λe=>by grind)];exact hf.old j hj hx⟩
theorem aU.ld{ex:List Nat}{σ σ':St}(h:WF σ)(hf:aU ex σ σ'){b o n:Nat}{g:Bool}{v:V}(hx:¬b∈ex)(hb:Xe.ld σ.h b o n g=some v):Xe.ld σ'.h b o n g=some v:=by have hlt:=h.dB hb;unfold Xe.ld at hb⊢;rw[hf.old b hlt hx];exact hb
def aU.get{ex:List Nat}{σ σ':St}(h:WF σ)(hf:aU ex σ σ'){b:Nat}{k:Bk}(hx:¬b∈ex)(hb:σ.h b=some k):σ'.h b=some k:=by rw[hf.old b (h.lt hb) hx];exact hb
def uK:Nat:=1000
def dK:Nat:=29000000
def eK:Nat:=29002000
def Zk(D k:Nat)(q:Rat):Prop:=∃a:Int,q=(a:Rat)/(D:Rat)/\a.natAbs<=k*(D*256^uK)
def BQ(D:Nat):Prop:=0<D/\D<256^dK
def alV{D k u d s a:Nat}(hD:D<256^d)(hk:k<=256^u)(hs:u+d+u<=s)(ha:a<=k*(D*256^u)):a<256^s:=by have h1:(256:Nat)^(u+d+u)<=256^s:=bA jj hs;refine cW ha (aE ?_ h1);rw[ec,ec,gb];exact cW (br _ hk) (Nat.mul_lt_mul_of_pos_left (eJ hD (dq jj)) (dq jj))
def Sm.int{k:Nat}{a:Int}(hk:k≠0)(h:a.natAbs<256^k):Sm k (a:Rat):=⟨by show(a:Rat).num.natAbs<_;simp_all,by simp_all⟩
section
variable {D k l:Nat} {p q:Rat}
def BQ.ne(h:BQ D):(D:Rat)≠0:=by have:=h.1;intro e;simp_all
def Zk.int{a:Int}(hD:BQ D)(hk:k<=256^uK)(h:a.natAbs<=k*(D*256^uK)):Sm eK (a:Rat):=Sm.int jj (alV hD.2 hk jj h)
def Zk.sz(h:Zk D k q)(hD:BQ D)(hk:k<=256^uK):Sz q:=by obtain⟨a,rfl,h2⟩:=h;have h3:Sm dK ((D:Int):Rat):=Sm.int jj hD.2;exact((Zk.int hD hk h2).div h3 hD.ne).mono jj
def Zk.auM(h:Zk D k p)(h':Zk D l q)(hD:BQ D)(hk:k<=256^uK)(hl:l<=256^uK)(h0:q≠0):Sz (p/q):=by
 obtain⟨a,rfl,h2⟩:=h;obtain⟨b,rfl,h3⟩:=h';have hb:(b:Rat)≠0:=λe=>h0 kd;have e:(a:Rat)/(D:Rat)/((b:Rat)/(D:Rat))=(a:Rat)/(b:Rat):=by grind
 rw[e];exact((Zk.int hD hk h2).div (Zk.int hD hl h3) hb).mono jj
def Zk.mono(h:Zk D k q)(hkl:k<=l):Zk D l q:=by obtain⟨a,e,h2⟩:=h;exact⟨a,e,av h2 (br _ hkl)⟩
theorem Zk.add(h:Zk D k p)(h':Zk D l q):Zk D (k+l) (p+q):=by
 obtain⟨a,rfl,h2⟩:=h;obtain⟨b,rfl,h3⟩:=h';refine⟨a+b,?_,?_⟩
 .rw[Rat.intCast_add];grind
 .rw[ic];omega
def Zk.neg(h:Zk D k p):Zk D k (-p):=by obtain⟨a,rfl,h2⟩:=h;refine⟨-a,?_,jb⟩;grind
def Zk.sub(h:Zk D k p)(h':Zk D l q):Zk D (k+l) (p-q):=by rw[js];exact h.add h'.neg
theorem Zk.zero:Zk D k 0:=⟨0,by grind,by simp⟩
end
def hdel(h:Tr Bk)(b:Nat):Tr Bk:=h.set b none
theorem TY(h:Tr Bk)(b j:Nat):hdel h b j=if j=b then none else h j:=Tr.uj h b none j
theorem iF(h:Tr Bk)(b j:Nat)(e:j≠b):hdel h b j=h j:=by grind[TY]
def aq5(h:Tr Bk)(b j o n:Nat)(g:Bool)(e:j≠b):ld (hdel h b) j o n g=ld h j o n g:=by grind[ld,iF]
def alW(o:Option (V×St))(K:V->St->Prop):Prop:=match o with|some (v,σ)=>K v σ|none=>False
@[congr] theorem aq6 {o o' : Option (V×St)} {K:V→St→Prop} (h:o=o'):alW o K=alW o' K:=by rw [h]
def ad4(v:V)(σ:St)(K:V->St->Prop):alW (some (v,σ)) K=K v σ:=rfl
def aha(ty iy bytes:Nat)(s x:V)(σ:St):Option (V×St):=
 match x with
 |.c .aX=>sK ty iy bytes s 0 [] σ
 |.c (.sl b o m _)=>bif Nat.beq m 0 then sK ty iy bytes s 0 [] σ else match σ.h b with
  |some k=>bif k.rd&&(Nat.beq ((k.cells.drop o).take (m*iy)).length (m*iy)&&((k.cells.drop o).take (m*iy)).all B.kn)then sK ty iy bytes s m ((k.cells.drop o).take (m*iy)) σ else none
  |none=>none
 |_=>none
def auN(E:Env)(tm:Tr V)(σ:St)(K:V->St->Prop)(ty iy bytes:Nat)(s x:O):wpOp E (.app ty iy bytes s x) tm σ K=alW (aha ty iy bytes (s.ev tm) (x.ev tm) σ) K:=by rfl
def ad5(ty iy bytes:Nat)(s:V)(σ:St):aha ty iy bytes s (.c .aX) σ=sK ty iy bytes s 0 [] σ:=rfl
def ahb(ty iy bytes:Nat)(s:V)(b o:Nat)(c:Cap)(σ:St):aha ty iy bytes s (.c (.sl b o 0 c)) σ=sK ty iy bytes s 0 [] σ:=rfl
def alX(ty iy bytes:Nat)(s:V)(b o m:Nat)(c:Cap)(σ:St)(hm:0<m):aha ty iy bytes s (.c (.sl b o m c)) σ=match σ.h b with
  |some k=>bif k.rd&&(Nat.beq ((k.cells.drop o).take (m*iy)).length (m*iy)&&((k.cells.drop o).take (m*iy)).all B.kn)then sK ty iy bytes s m ((k.cells.drop o).take (m*iy)) σ else none
  |none=>none:=by
 grind[aha,QG]
variable {ty iy bytes n m:Nat} {news:List B} {h:Tr Bk} {nx b:Nat}
def QH(h1:0<m)(h2:0<iy)(h3:m*bytes<=140737488355328)(h4:m<=1073741824):sK ty iy bytes (.c .aX) m news ⟨h,nx⟩=some (.c (.sl nx 0 m .opn),⟨hset h nx ⟨news,some (iy,ty)⟩,nx+1⟩):=by grind[sK,QG,Ho,xB,kG]
def apK(ty iy bytes n m:Nat)(news:List B)(b:Nat)(h:Tr Bk)(nx:Nat)(k:Option Bk):Option (V×St):=match k with
 |some ⟨cells,some (e,t)⟩=>bif Nat.blt 0 e&&Nat.beq 0 0&&(Nat.beq e iy&&(Nat.beq t ty&&(Nat.ble ((n+m)*bytes) 140737488355328&&(Nat.ble (n+m) 1073741824&&Nat.ble (n*iy) cells.length))))then
   some (.c (.sl nx 0 (n+m) .opn),⟨hset (hdel h b) nx ⟨cells.take (n*iy)++news,some (iy,ty)⟩,nx+1⟩)else none
 |_=>none
def ahc(h1:0<m):sK ty iy bytes (.c (.sl b 0 n .opn)) m news ⟨h,nx⟩=apK ty iy bytes n m news b h nx (h b):=by
 unfold sK apK;dsimp only;rw[QG (by omega:m≠0)];simp only[fP];split
 .next cells e t hk=>
  rw[hk];dsimp only;cases(Nat.blt 0 e&&Nat.beq 0 0&&(Nat.beq e iy&&(Nat.beq t ty&&(Nat.ble ((n+m)*bytes) 140737488355328&&(Nat.ble (n+m) 1073741824&&Nat.ble (n*iy) cells.length)))))with
  |false=>rfl
  |true=>
   simp only[cC,Tr.put,kG,sJ]
   rfl
 simp
def WS{cells:List B}(h2:0<iy)(h3:(n+m)*bytes<=140737488355328)(h4:n+m<=1073741824)(h5:n*iy<=cells.length):apK ty iy bytes n m news b h nx (some ⟨cells,some (iy,ty)⟩)=some (.c (.sl nx 0 (n+m) .opn),⟨hset (hdel h b) nx ⟨cells.take (n*iy)++news,some (iy,ty)⟩,nx+1⟩):=by simp_all[apK,Ho,xB]
def ad6(b o n:Nat)(σ:St):sK ty iy bytes (.c (.sl b o n (.ex n))) 0 news σ=some (.c (.sl b o n (.ex n)),σ):=by simp_all[sK,xB]
def ahd(b o n:Nat)(σ:St):sK ty iy bytes (.c (.sl b o n .any)) 0 news σ=some (.c (.sl b o n .any),σ):=rfl
def ZN(σ:St)(h1:0<m)(h2:0<iy)(h3:m*bytes<=140737488355328)(h4:m<=1073741824):sK ty iy bytes (.c .aX) m news σ=some (.c (.sl σ.aj 0 m .opn),⟨hset σ.h σ.aj ⟨news,some (iy,ty)⟩,σ.aj+1⟩):=QH h1 h2 h3 h4
def ZO(σ:St):sK ty iy bytes (.c .aX) 0 news σ=some (.c .aX,σ):=rfl
def QI(σ:St)(h1:0<m):sK ty iy bytes (.c (.sl b 0 n .opn)) m news σ=apK ty iy bytes n m news b σ.h σ.aj (σ.h b):=ahc h1
def ZP{σ:St}(hb:σ.h b=some ⟨[],none⟩)(h1:0<m)(h2:0<iy)(h3:m*bytes<=140737488355328)(h4:m<=1073741824):sK ty iy bytes (.c (.sl b 0 0 (.ex 0))) m news σ=some (.c (.sl σ.aj 0 m .opn),⟨hset σ.h σ.aj ⟨news,some (iy,ty)⟩,σ.aj+1⟩):=by unfold sK;dsimp only;rw[QG (by omega:m≠0),hb];simp only[fP,Bk.rd,ip,cL,et,Ho h2,cD,Ho h1,xB h3,xB h4,List.length_nil,eg,cC,kG,sJ,io,List.nil_append,Bool.true_and,cE];rfl
def Fr.nM{σ:St}{h:Tr Bk}{n b:Nat}(hf:Fr σ ⟨h,n⟩)(h1:σ.aj<=b):Fr σ ⟨hdel h b,n⟩:=
 ⟨hf.le,λj hj=>by
  show hdel h b j=none;rw[TY];split
  .rfl
  .exact hf.wf j hj,λj hj=>by
  show hdel h b j=_;rw[iF _ _ _ jb];exact hf.old j hj⟩
def aU.nM{ex:List Nat}{σ:St}{h:Tr Bk}{n b:Nat}(hf:aU ex σ ⟨h,n⟩)(h1:σ.aj<=b\/b∈ex):aU ex σ ⟨hdel h b,n⟩:=
 ⟨hf.le,λj hj=>by
  show hdel h b j=none;rw[TY];split
  .rfl
  .exact hf.wf j hj,λj hj hx=>by
  show hdel h b j=_;rw[iF _ _ _ (λe=>by grind)];exact hf.old j hj hx⟩
def aS:Nat->Nat->B
 |0,_=>.aX
 |n+1,b=>.sl b 0 (n+1) .opn
def kH:Nat->Tr Bk->Nat->Tr Bk
 |0,h,_=>h
 |_+1,h,b=>hdel h b
def yu:Nat->Tr Bk->Nat->Option Bk
 |0,_,_=>none
 |_+1,h,b=>h b
def gF(n:Nat)(G:Nat->List B)(e ty:Nat):Option Bk:=match n with
 |0=>none
 |n+1=>some ⟨bU (n+1) G,some (e,ty)⟩
def LG(G:Nat->List B)(e:Nat):Prop:=∀j,(G j).length=e
def apF(ty iy bytes n m:Nat)(news:List B)(b:Nat)(h:Tr Bk)(nx:Nat)(k:Option Bk):Option (V×St):=match n with
 |0=>sK ty iy bytes (.c .aX) m news ⟨h,nx⟩
 |n+1=>apK ty iy bytes (n+1) m news b h nx k
theorem KQ(n b:Nat):(aS n b).kn=true:=by cases n<;>rfl
def Hq(n b:Nat):lenV (.c (aS n b))=some (.c (.int .i64 (.ofNat n))):=by cases n<;>rfl
theorem dX(n:Nat)(h:Tr Bk)(b j:Nat)(e:n=0\/j≠b):kH n h b j=h j:=by
 cases n with
 |zero=>rfl
 |succ n=>exact iF _ _ _ jb
def alY(k:Nat)(h:Tr Bk)(b j o n:Nat)(g:Bool)(e:k=0\/j≠b):ld (kH k h b) j o n g=ld h j o n g:=by grind[ld,dX]
theorem wE{n:Nat}{h h':Tr Bk}{b:Nat}(e:n=0\/h' b=h b):yu n h' b=yu n h b:=by
 cases n with
 |zero=>rfl
 |succ n=>exact e.resolve_left jb
def ahe(n:Nat)(h:Tr Bk)(j b:Nat)(k:Bk)(e:n=0\/b≠j):yu n (hset h j k) b=yu n h b:=wE (by grind[au])
def ahf(σ:St)(h1:0<m):sK ty iy bytes (.c (aS n b)) m news σ=apF ty iy bytes n m news b σ.h σ.aj (yu n σ.h b):=by
 cases n with
 |zero=>rfl
 |succ n=>exact QI σ h1
def aq7{G:Nat->List B}(h1:0<m)(h2:0<iy)(h3:(n+m)*bytes<=140737488355328)(h4:n+m<=1073741824)(hG:LG G iy):apF ty iy bytes n m news b h nx (gF n G iy ty)=some (.c (.sl nx 0 (n+m) .opn),⟨hset (kH n h b) nx ⟨bU n G++news,some (iy,ty)⟩,nx+1⟩):=by
 cases n with
 |zero=>
  rw[cD]at h3 h4⊢
  exact QH h1 h2 h3 h4
 |succ n=>
  show apK ty iy bytes (n+1) m news b h nx (some ⟨bU (n+1) G,some (iy,ty)⟩)=_
  rw[WS h2 h3 h4 (by rw[qP hG];omega),<-qP (n:=n+1) hG,cB]
  rfl
def Fr.kH{σ:St}{h:Tr Bk}{n b k:Nat}(hf:Fr σ ⟨h,n⟩)(h1:k=0\/σ.aj<=b):Fr σ ⟨Xe.kH k h b,n⟩:=by
 cases k with
 |zero=>exact hf
 |succ k=>exact Fr.nM hf jb
def aU.kH{ex:List Nat}{σ:St}{h:Tr Bk}{n b k:Nat}(hf:aU ex σ ⟨h,n⟩)(h1:σ.aj<=b\/b∈ex):aU ex σ ⟨Xe.kH k h b,n⟩:=by
 cases k with
 |zero=>exact hf
 |succ k=>exact aU.nM hf h1
attribute [go_sem] KQ Hq dX alY ahe ahf aq7
def Fr.up{σ σ':St}{n:Nat}(hf:Fr σ σ')(hn:σ'.aj<=n):Fr σ ⟨σ'.h,n⟩:=⟨av hf.le hn,λb hb=>hf.wf b (av hn hb),hf.old⟩
def Fr.oz{σ:St}{h:Tr Bk}{n n':Nat}{k:Bk}(hf:Fr σ ⟨h,n⟩)(hn:n<n'):Fr σ ⟨hset h n k,n'⟩:=Fr.up (Fr.new1 hf) hn
theorem fr{σ σ':St}(h:Fr σ σ':=by repeat(first|assumption|exact Fr.refl (by assumption)|exact Fr.up (by assumption) kf|exact Fr.up (Fr.refl (by assumption)) kf|refine Fr.set1 ?_ kf kf|refine Fr.kH ?_ kf|refine Fr.nM ?_ kf|refine Fr.oz ?_ kf)):Fr σ σ':=h
def aU.up{ex:List Nat}{σ σ':St}{n:Nat}(hf:aU ex σ σ')(hn:σ'.aj<=n):aU ex σ ⟨σ'.h,n⟩:=⟨av hf.le hn,λb hb=>hf.wf b (av hn hb),hf.old⟩
def aU.oz{ex:List Nat}{σ:St}{h:Tr Bk}{n n':Nat}{k:Bk}(hf:aU ex σ ⟨h,n⟩)(hn:n<n'):aU ex σ ⟨hset h n k,n'⟩:=aU.up (aU.new1 hf) hn
def aC.st{E:Env}{f:Nat}{args:List V}{σ:St}{K:V->St->Prop}(P:St->Prop)(h:P σ)(h2:P σ->aC E f args σ K):aC E f args σ K:=h2 h
def bM.st{E:Env}{c:AC}{tm:Tr V}{σ:St}{Q:AX->Tr V->St->Prop}(P:St->Prop)(h:P σ)(h2:P σ->bM E c tm σ Q):bM E c tm σ Q:=h2 h
theorem QJ{e:Nat}{l:List B}:∀{n:Nat}{o:Nat}{G:Nat->List B},(∀i,i<n->zJ l (o+i*e) e true=some (.agg (G i)))->(l.drop o).take (n*e)=bU n G/\(bU n G).length=n*e/\(bU n G).all B.kn=true
 |0,o,G,_=>by rw[ip,cL];exact⟨rfl,rfl,rfl⟩
 |n+1,o,G,h=>by
  have h0:=h 0 jb;rw[ip,cE]at h0;unfold zJ at h0;dsimp only at h0;cases hx:(Nat.beq ((l.drop o).take e).length e&&((l.drop o).take e).all B.kn)with
  |false=>grind
  |true=>
   rw[hx]at h0
   have e0:(l.drop o).take e=G 0:=by grind
   rw[af]at hx
   have hl:=ap hx.1
   obtain⟨h1,h2,h3⟩:=QJ (o:=o+e) (n:=n) (G:=λi=>G (i+1)) λi hi=>by have:=h (i+1) jb;rw[cA,fo (i*e),<-Nat.add_assoc]at this;exact this
   refine⟨?_,?_,?_⟩
   .unfold bU
    rw[<-e0,<-h1,<-List.drop_drop,cA,fo (n*e),List.take_add]
   .unfold bU
    rw[az,h2,<-e0,hl,cA,fo]
   .unfold bU
    rw[List.all_append,h3,<-e0,hx.2];rfl
def QL{h:Tr Bk}{e b o n:Nat}{G:Nat->List B}(hn:0<n)(hl:∀i,i<n->ld h b (o+i*e) e true=some (.agg (G i))):∃k,h b=some k/\k.rd=true/\(k.cells.drop o).take (n*e)=bU n G/\(bU n G).length=n*e/\(bU n G).all B.kn=true:=by grind[Go.Proofs.Xe.ld,Go.Proofs.Xe.QJ]
def ad7(n:Nat)(f:Nat->Rat):(bY n f).take (n*3)=bY n f:=by grind[NH]
def ad8(n:Nat)(g:Nat->B):(ones n g).take (n*1)=ones n g:=by grind[NI]
def ahg(n:Nat)(f:Nat->Rat):n*3<=(bY n f).length:=by grind[NH]
def alZ(h1:0<m)(h2:0<iy)(h3:m*bytes<=140737488355328)(h4:m<=1073741824):sK ty iy bytes (.c (.sl b 0 0 (.ex 0))) m news ⟨hset h b ⟨[],none⟩,nx⟩=some (.c (.sl nx 0 m .opn),⟨hset (hset h b ⟨[],none⟩) nx ⟨news,some (iy,ty)⟩,nx+1⟩):=ZP (aA _ _ _) h1 h2 h3 h4
def ZQ:∀{n:Nat}{G:Nat->List B},(∀j,(G j).all B.kn=true)->(bU n G).all B.kn=true
 |0,_,_=>rfl
 |n+1,G,h=>by unfold bU;rw[List.all_append,h 0,ZQ λj=>h (j+1)];rfl
def al0(n:Nat)(f:Nat->Rat):(bY n f).all B.kn=true:=ZQ λ_=>rfl
def auO:((Int.ofNat 1:Int):Rat)=1:=rfl
def auP:((Int.ofNat 0:Int):Rat)=0:=rfl
attribute [go_sem] alZ al0 Bool.not_true Bool.not_false auO auP iF aq5 ad4 auN ad5 alX ahb ahd ZN ZO QI WS ad6 ad7 ad8 NH NI ad3
end Go.Proofs.Xe
namespace Go.Proofs.Xe
open Go.RowKit Go.Proofs.Ins
def NJ(k:IntKind)(v:V):Option V:=match v with|.c (.int _ n)=>bif IY k n then some (.c (.int k n))else some (.c (.int k (k.wrap n)))|_=>none
def aq8(E:Env)(tm:Tr V)(σ:St)(K:V->St->Prop)(k:IntKind)(x:O):wpOp E (.conv k x) tm σ K=F9 (NJ k (x.ev tm)) λv=>K v σ:=iE _ _ _ _ rfl λ_ _ h=>by cases h
def abD{k j:IntKind}{n:Int}(h:k.wrap n=n):NJ k (.c (.int j n))=some (.c (.int k n)):=by grind[NJ]
def aq9(j:IntKind)(a:Nat)(h:a<=9223372036854775807):NJ .i64 (.c (.int j (.ofNat a)))=some (.c (.int .i64 (.ofNat a))):=abD (by grind[IntKind.wrap_i64])
def ara(j:IntKind)(a:Nat)(h:a<=18446744073709551615):NJ .u64 (.c (.int j (.ofNat a)))=some (.c (.int .u64 (.ofNat a))):=abD (by grind[IntKind.wrap_u64])
def arb(j:IntKind)(a:Nat):NJ .u16 (.c (.int j (.ofNat a)))=some (.c (.int .u16 (.ofNat (a%65536)))):=by rfl
theorem CU(op:BinOp)(k:IntKind)(a b:Int):nT op (.c (.int k a)) (.c (.int k b))=Tj op k a b:=by unfold nT;simp
def auQ(k:IntKind)(a b:Nat)(h:0<b):nT .rem (.c (.int k (.ofNat a))) (.c (.int k (.ofNat b)))=some (.c (.int k (.ofNat (a%b)))):=by grind[CU,Tj,BJ]
def ahh(k:IntKind)(a b:Nat)(h:0<b)(hw:k.wrap (Int.ofNat (a/b))=Int.ofNat (a/b)):nT .quo (.c (.int k (.ofNat a))) (.c (.int k (.ofNat b)))=some (.c (.int k (.ofNat (a/b)))):=by grind[CU,Tj,BJ]
def wF(a b m:Nat)(h:a<=m):a/b<=m:=av (fX _ _) h
def ad9(a b:Nat)(h:0<b)(h2:a<=9223372036854775807):nT .quo (.c (.int .i64 (.ofNat a))) (.c (.int .i64 (.ofNat b)))=some (.c (.int .i64 (.ofNat (a/b)))):=ahh _ _ _ h (by have:=wF a b _ h2;grind[IntKind.wrap_i64])
def aea(a b:Nat)(h:0<b)(h2:a<=65535):nT .quo (.c (.int .u16 (.ofNat a))) (.c (.int .u16 (.ofNat b)))=some (.c (.int .u16 (.ofNat (a/b)))):=ahh _ _ _ h (by have:=wF a b _ h2;grind[IntKind.wrap_u16])
def al1(k:IntKind)(a b:Nat)(ha:a<2^k.bits)(hb:b<2^k.bits):(BitVec.ofInt k.bits (Int.ofNat a)&&&BitVec.ofInt k.bits (Int.ofNat b)).toNat=a&&&b:=by grind
def aeb(a b:Nat)(ha:a<=9223372036854775807)(hb:b<=9223372036854775807):nT .and (.c (.int .i64 (.ofNat a))) (.c (.int .i64 (.ofNat b)))=some (.c (.int .i64 (.ofNat (a&&&b)))):=by rw[CU];unfold Tj BJ;dsimp only;rw[al1 .i64 a b (by show a<18446744073709551616;omega) (by show b<18446744073709551616;omega),IntKind.wrap_i64];grind[Nat.and_le_left]
def aec(a b:Nat):nT .add (.c (.int .u16 (.ofNat a))) (.c (.int .u16 (.ofNat b)))=some (.c (.int .u16 (.ofNat ((a+b)%65536)))):=by rfl
def aed(a b:Nat):nT .mul (.c (.int .u16 (.ofNat a))) (.c (.int .u16 (.ofNat b)))=some (.c (.int .u16 (.ofNat (a*b%65536)))):=by rfl
def auR(a b:Nat)(h:a*b<=9223372036854775807):nT .mul (.c (.int .i64 (.ofNat a))) (.c (.int .i64 (.ofNat b)))=some (.c (.int .i64 (.ofNat (a*b)))):=by show mkI .i64 (Int.ofNat a*Int.ofNat b)=_;rw[show Int.ofNat a*Int.ofNat b=Int.ofNat (a*b)from rfl,TP h]
def auS(k j:IntKind)(a c:Nat):nT .shr (.c (.int k (.ofNat a))) (.c (.int j (.ofNat c)))=some (.c (.int k (.ofNat (a/2^min c k.bits)))):=by
 have e:nT .shr (.c (.int k (.ofNat a))) (.c (.int j (.ofNat c)))=Zm .shr k (.ofNat a) (.ofNat c):=by
  unfold nT;dsimp only;by_cases h:k=j
  .subst h;rw[aM rfl];rfl
  grind
 rw[e];unfold Zm;grind
def ahi:IntKind.bits .i64=64:=rfl
def ahj:IntKind.bits .u16=16:=rfl
def ahk:IntKind.bits .u64=64:=rfl
def ard(k:IntKind)(a b:Int):nT .eql (.c (.int k a)) (.c (.int k b))=some (.c (.bool (decide (a=b)))):=by rw[CU];rfl
def arf(k:IntKind)(a b:Int):nT .neq (.c (.int k a)) (.c (.int k b))=some (.c (.bool (!decide (a=b)))):=by rw[CU];rfl
attribute [go_sem] aq8 aq9 ara arb auQ ad9 aea aeb aec aed auR auS ahi ahj ahk ard arf
end Go.Proofs.Xe
end
