import Derived.Test.YtchhojplceoifaaGreatDoorYc10
import Derived.Attr
set_option linter.all false
noncomputable section
namespace Go.Proofs.Xe
open Go.RowKit Go.Proofs.Ins
section
variable {E:Env}
theorem alQ{n:Nat}{op:vV}{tm:Tr V}{σ σ':St}{v:V}{K:V->St->Prop}(h:oV (jd E n) op tm σ=some (v,σ'))(hk:K v σ'):wpOp E op tm σ K:=by
 unfold wpOp;split
 .next g args=>
  unfold oV at h;simp only[vV.kind]at h;split at h
  .next f a e=>
   unfold abz at e;cases hg:g.ev tm with
   |fn f' caps=>
    dsimp only at e
    rw[hg]at e
    obtain⟨rfl,rfl⟩:=Prod.mk.inj (eE e)
    exact⟨n,v,σ',h,hk⟩
   |_=>grind
  .cases h
 .next hne=>
  have e:oV (λ_ _ _=>none) op tm σ=oV (jd E n) op tm σ:=by
   unfold oV;cases hk2:op.kind with
   |c=>cases op<;>simp only[vV.kind,reduceCtorEq]at hk2;grind
   |_=>rfl
  grind
def ag0{n:Nat}{o:AO}{tm:Tr V}{σ σ':St}{v:V}{K:V->St->Prop}(h:stepG (jd E n) o tm σ=some (v,σ'))(hk:K v σ'):wpG E o tm σ K:=by grind[wpG,stepG,alQ]
theorem WZ{n:Nat}:∀{l:List AO}{tm tm':Tr V}{σ σ':St}{Q:Tr V->St->Prop},sU (jd E n) l tm σ=some (tm',σ')->Q tm' σ'->wpOps E l tm σ Q
 |[],_,_,_,_,_,h,hq=>by cases h;exact hq
 |o::l,tm,tm',σ,σ',Q,h,hq=>by
  unfold sU at h;split at h
  .next v σ1 e=>
   rw[KP]at h;exact ag0 e (WZ h hq)
  .cases h
theorem ag1{n:Nat}{pt:List (List Nat)}{dR bV:Tr V}:∀{d:Dr}{σ σ':St}{res:List Rs}{pd:List iT}{tm':Tr V}{Q:Tr V->St->Prop},CO (jd E n) pt dR bV d σ res pd=some (tm',σ')->Q tm' σ'->WL E pt dR bV d σ res pd Q
 |.fin qs,σ,σ',res,pd,tm',Q,h,hq=>by grind[Go.Proofs.Xe.CO,Go.Proofs.Xe.WL]
 |.act qs x r,σ,σ',res,pd,tm',Q,h,hq=>by
  unfold CO at h;unfold WL;split at h
  .next σ1 res1 pd1 e=>
   rw[e];dsimp only;cases hb:pd1.all (again σ1)with
   |false=>rw[hb]at h;cases h
   |true=>
    rw[hb]at h
    simp only[cD]at h
    refine⟨rfl,?_⟩
    split at h
    .next VR e2=>
     rw[e2]
     dsimp only
     split at h
     .next v σ2 e3=>exact ag0 e3 (ag1 h hq)
     .cases h
    .cases h
  .cases h
end
section
variable (E:Env) (tm:Tr V) (σ:St) (Q:AX→Tr V→St→Prop)
def aqW(l:List AO):bP E (.ops l) tm σ Q=wpOps E l tm σ λtm' σ'=>Q .normal tm' σ':=by
 refine propext ⟨?_,ald⟩;rintro⟨n,e,tm',σ',h,hq⟩;cases n with
 |zero=>grind[exec]
 |succ n=>
  simp only[exec,Wh]at h
  grind[WZ]
def auO(d:Dr)(pt:List (List Nat))(ds:List Nat):bP E (.drawn d pt ds) tm σ Q=WL E pt tm (ZT tm ds) d σ [] [] λtm' σ'=>Q .normal tm' σ':=by
 refine propext ⟨?_,aqV⟩;rintro⟨n,e,tm',σ',h,hq⟩;cases n with
 |zero=>grind[exec]
 |succ n=>
  simp only[exec,xDr,Wh,Jj]at h
  grind[ag1]
def seq_eq(a b:AC):bP E (.seq a b) tm σ Q=bP E a tm σ (Ub E b Q):=by
 refine propext ⟨?_,run_seq⟩;rintro⟨n,e,tm',σ',h,hq⟩;cases n with
 |zero=>grind[exec]
 |succ n=>
  rw[exec]at h
  cases hx:exec E n a tm σ with
  |none=>rw[hx]at h;cases h
  |some q=>
   rw[hx]at h
   obtain⟨e1,I4,σ1⟩:=q
   refine⟨n,e1,I4,σ1,hx,?_⟩
   cases e1 with
   |normal=>exact⟨n,e,tm',σ',h,hq⟩
   |exit i=>cases h;exact hq
   |ret=>cases h;exact hq
def ag2(i:Nat)(a:AC):bP E (.block i a) tm σ Q=bP E a tm σ (ags i Q):=by
 refine propext ⟨?_,Eo⟩;rintro⟨n,e,tm',σ',h,hq⟩;cases n with
 |zero=>grind[exec]
 |succ n=>
  rw[exec]at h
  cases hx:exec E n a tm σ with
  |none=>rw[hx]at h;cases h
  |some q=>
   rw[hx]at h
   obtain⟨e1,I4,σ1⟩:=q
   refine⟨n,e1,I4,σ1,hx,?_⟩
   cases e1 with
   |normal=>cases h;exact hq
   |exit j=>cases h;exact hq
   |ret=>cases h;exact hq
def alR:bP E .skip tm σ Q=Q .normal tm σ:=by
 refine propext ⟨?_,WI⟩;rintro⟨n,e,tm',σ',h,hq⟩;cases n with
 |zero=>grind[exec]
 |succ n=>grind[exec]
def alS(i:Nat):bP E (.exit i) tm σ Q=Q (.exit i) tm σ:=by
 refine propext ⟨?_,agp⟩;rintro⟨n,e,tm',σ',h,hq⟩;cases n with
 |zero=>grind[exec]
 |succ n=>grind[exec]
def aqX:bP E .ret tm σ Q=Q .ret tm σ:=by
 refine propext ⟨?_,alb⟩;rintro⟨n,e,tm',σ',h,hq⟩;cases n with
 |zero=>grind[exec]
 |succ n=>grind[exec]
def ifV(v:V)(P:Bool->Prop):Prop:=match v with|.c (.bool t)=>P t|_=>False
def alT(x:O)(a b:AC):bP E (.cond x a b) tm σ Q=ifV (x.ev tm) λt=>bP E (bif t then a else b) tm σ Q:=by
 refine propext ⟨?_,λh=>?_⟩
 .rintro⟨n,e,tm',σ',h,hq⟩;cases n with
  |zero=>grind[exec]
  |succ n=>
   simp only[exec,abB]at h
   split at h
   .next t e=>rw[e];exact⟨n,_,_,_,h,hq⟩
   .cases h
 .unfold ifV at h;grind[agq]
def aqY(a b:AC):bP E (bif true then a else b) tm σ Q=bP E a tm σ Q:=rfl
def aqZ(a b:AC):bP E (bif false then a else b) tm σ Q=bP E b tm σ Q:=rfl
def alU(a b:AC):bP E (bif !true then a else b) tm σ Q=bP E b tm σ Q:=rfl
def alV(a b:AC):bP E (bif !false then a else b) tm σ Q=bP E a tm σ Q:=rfl
def ag3(n:Nat)(b:AC)(r:List (Nat×Option (Nat×Bool))):bP E (AF.body ⟨n,b,r⟩) tm σ Q=bP E b tm σ Q:=rfl
def ag4(P:Bool->Prop):ifV (.c (.bool true)) P=P true:=rfl
def aec(P:Bool->Prop):ifV (.c (.bool false)) P=P false:=rfl
def alW(b:Bool)(P:Bool->Prop):ifV (.c (.bool (!b))) P=ifV (.c (.bool b)) λt=>P (!t):=rfl
def aH{p:Prop}[Decidable p]{P:Bool->Prop}(h1:p->P true)(h2:¬p->P false):ifV (.c (.bool (decide p))) P:=by
 show P (decide p);by_cases h:p
 .grind
 grind
def auP{b:Bool}{P:Bool->Prop}(h1:b=true->P true)(h2:b=false->P false):ifV (.c (.bool b)) P:=by
 show P b;cases b with
 |true=>grind
 |false=>grind
def tick:Prop:=∀n:Nat,n=n
def aed:tick=True:=propext ⟨λ_=>trivial,λ_ _=>rfl⟩
@[congr] theorem atC {z:Prop} {v v' : V} {P:Bool→Prop} (hz:tick=z) (h:v=v'):ifV v P=ifV v' P:=by rw [h]
@[congr] theorem atD {z:Prop} {v v' : Option V} {P:V→Prop} (hz:tick=z) (h:v=v'):Gs v P=Gs v' P:=by rw [h]
@[congr] theorem aq0 {z:Prop} {c:AC} {tm tm' : Tr V} {σ σ' : St} {Q:AX→Tr V→St→Prop} (hz:tick=z) (h:tm=tm') (h2:σ=σ'):bP E c tm σ Q=bP E c tm' σ' Q:=by rw [h,h2]
@[congr] theorem aoP {z:Prop} {c:List AO} {tm tm' : Tr V} {σ σ' : St} {Q:Tr V→St→Prop} (hz:tick=z) (h:tm=tm') (h2:σ=σ'):wpOps E c tm σ Q=wpOps E c tm' σ' Q:=by rw [h,h2]
@[congr] theorem atE {z:Prop} {c:AO} {tm tm' : Tr V} {σ σ' : St} {Q:V→St→Prop} (hz:tick=z) (h:tm=tm') (h2:σ=σ'):wpG E c tm σ Q=wpG E c tm' σ' Q:=by rw [h,h2]
@[congr] theorem aq1 {z:Prop} {c:vV} {tm tm' : Tr V} {σ σ' : St} {Q:V→St→Prop} (hz:tick=z) (h:tm=tm') (h2:σ=σ'):wpOp E c tm σ Q=wpOp E c tm' σ' Q:=by rw [h,h2]
@[congr] theorem aoQ {z:Prop} {f:Nat} {a a' : List V} {σ σ' : St} {Q:V→St→Prop} (hz:tick=z) (h:a=a') (h2:σ=σ'):aC E f a σ Q=aC E f a' σ' Q:=by rw [h,h2]
@[congr] theorem atF {z:Prop} {dR bV:Tr V} {qs:List DO} {σ σ' : St} {res res' : List Rs} {pd pd' : List iT} {K:St→List Rs→List iT→Prop} (hz:tick=z) (h2:σ=σ') (h3:res=res') (h4:pd=pd'):uZ dR bV qs σ res pd K=uZ dR bV qs σ' res' pd' K:=by grind
@[congr] theorem atG {z:Prop} {pt:List (List Nat)} {dR bV:Tr V} {d:Dr} {σ σ' : St} {res res' : List Rs} {pd pd' : List iT} {K:Tr V→St→Prop} (hz:tick=z) (h2:σ=σ') (h3:res=res') (h4:pd=pd'):WL E pt dR bV d σ res pd K=WL E pt dR bV d σ' res' pd' K:=by grind
@[congr] theorem atH {z:Prop} {σ σ' : St} {pd pd' : List iT} (hz:tick=z) (h:σ=σ') (h2:pd=pd'):agn σ pd=agn σ' pd':=by rw [h,h2]
@[congr] theorem aq2 {z:Prop} {i i' : Nat} {o:AO} {tm:Tr V} {v:V} {g:Bool} {nm:Option Nat} (hz:tick=z) (h:i=i'):iT.mk i o tm v g nm=iT.mk i' o tm v g nm:=by rw [h]
@[congr] theorem aoR {z:Prop} {σ σ' : St} {p:iT} (hz:tick=z) (h:σ=σ'):again σ p=again σ' p:=by rw [h]
@[congr] theorem atI {z:Prop} {dR bV:Tr V} {res:List Rs} {us us' os:List Nat} (hz:tick=z) (h:us=us'):MZ dR bV res us os=MZ dR bV res us' os:=by rw [h]
@[congr] theorem aq3 {z:Prop} {bV:Tr V} {res:List Rs} {us us' : List Nat} (hz:tick=z) (h:us=us'):Jb bV res us=Jb bV res us':=by rw [h]
@[congr] theorem atJ {z:Prop} {res:List Rs} {u u' : Nat} (hz:tick=z) (h:u=u'):fnd res u=fnd res u':=by rw [h]
@[congr] theorem aoS {z:Prop} {dR tm:Tr V} {os os' : List Nat} (hz:tick=z) (h:os=os'):Fq dR tm os=Fq dR tm os':=by rw [h]
@[congr] theorem aq4 {z:Prop} {g:Option (Nat×Bool)} {tm:Tr V} {A B:Prop} (hz:tick=z):BP g tm A B=BP g tm A B:=rfl
@[congr] theorem atK {z:Prop} {v v' : V} {b:Bool} {A B:Prop} (hz:tick=z) (h:v=v'):gsV v b A B=gsV v' b A B:=by rw [h]
@[congr] theorem auQ {z:Prop} {g:Option (Nat×Bool)} {dR bV:Tr V} {res:List Rs} {us os:List Nat} {σ:St} {pd:List iT} {i:Nat} {d:Option Nat} {op:vV} {l:List DO} {K:St→List Rs→List iT→Prop} (hz:tick=z):qR g dR bV res us os σ pd i d op l K=qR g dR bV res us os σ pd i d op l K:=rfl
def alX(E:Env)(d:Option Nat)(g:Option (Nat×Bool))(op:vV)(tm:Tr V)(σ:St)(K:V->St->Prop):wpG E ⟨d,g,op⟩ tm σ K=BP g tm (wpOp E op tm σ K) (K .tnil σ):=rfl
def aq5(x:O)(K:V->St->Prop):wpOp E (.mov x) tm σ K=Gs (some (x.ev tm)) λv=>K v σ:=rfl
def aq6(b:AC):Ub E b Q .normal tm σ=bP E b tm σ Q:=rfl
def aq7(b:AC)(i:Nat):Ub E b Q (.exit i) tm σ=Q (.exit i) tm σ:=rfl
def aq8(b:AC):Ub E b Q .ret tm σ=Q .ret tm σ:=rfl
def aq9(i:Nat):ags i Q .normal tm σ=Q .normal tm σ:=rfl
def ara(i j:Nat):ags i Q (.exit j) tm σ=Q (bif Nat.beq j i then .normal else .exit j) tm σ:=rfl
def arb(i:Nat):ags i Q .ret tm σ=Q .ret tm σ:=rfl
variable (I:Nat→Tr V→St→Prop) (m:Nat) (res:List (Nat×Option (Nat×Bool))) (K:V→St→Prop)
def ard:alc I m Q .normal tm σ=∃m',m'<m/\I m' tm σ:=rfl
def arf(i:Nat):alc I m Q (.exit i) tm σ=Q (.exit i) tm σ:=rfl
def arh:alc I m Q .ret tm σ=Q .ret tm σ:=rfl
def alY:ZO res K .normal tm σ=Gs (result tm σ res) λv=>K v σ:=by unfold ZO Gs;grind
def ari:ZO res K .ret tm σ=Gs (result tm σ res) λv=>K v σ:=by unfold ZO Gs;grind
end
def arj(p q:Rat):decide (oQ p q<0)=decide (p<q):=by
 by_cases h:p<q
 .rw[be h,be];exact qJ.mpr h
 .rw[az h,az];exact λe=>h (qJ.mp e)
def ag5(tm:Tr V)(d:Nat)(v:V):Tr.get (ER tm (some d) v) d=some v:=by grind[ER,Tr.uo]
def ark(tm:Tr V)(d j:Nat)(v:V)(h:j≠d):Tr.get (ER tm (some d) v) j=Tr.get tm j:=by grind[ER,Tr.uo]
def ZX(tm:Tr V)(σ:St):pJ tm σ []=some .tnil:=rfl
def ag6(tm:Tr V)(σ:St)(t:Nat)(r:List (Nat×Option (Nat×Bool))):pJ tm σ ((t,none)::r)=match tm.get t,pJ tm σ r with|some v,some w=>some (.aV v w)|_,_=>none:=rfl
def ag7(tm:Tr V)(σ:St)(t n:Nat)(g:Bool)(r:List (Nat×Option (Nat×Bool))):pJ tm σ ((t,some (n,g))::r)=match(match tm.ah t with|.c (.ptr b o)=>ld σ.h b o n g|_=>none),pJ tm σ r with|some v,some w=>some (.aV v w)|_,_=>none:=rfl
def Fr.new1{σ:St}{h:Tr Bk}{n:Nat}{k:Bk}(hf:Fr σ ⟨h,n⟩):Fr σ ⟨hset h n k,n+1⟩:=Fr.new hf k
def Fr.set1{σ:St}{h:Tr Bk}{n b:Nat}{k:Bk}(hf:Fr σ ⟨h,n⟩)(h1:σ.aj<=b)(h2:b<n):Fr σ ⟨hset h b k,n⟩:=Fr.set hf h1 h2 k
def ak{h:Tr Bk}{b:Nat}{k:Bk}(e:h b=some k)(o n:Nat)(g:Bool):ld h b o n g=bif k.rd then zI k.cells o n g else none:=by unfold ld;rw[e]
def aI{h:Tr Bk}{b:Nat}{k:Bk}(e:h b=some k)(o:Nat)(vs:List B):sto h b o vs=match bif k.pl then yw k.cells o vs else none with|some l=>some (hset h b ⟨l,k.opn⟩)|none=>none:=by grind[sto]
def plo(o:Option (Nat×Nat)):Bool:=match o with|some (0,_)=>false|_=>true
def Y0(o:Option (Nat×Nat)):Bool:=match o with|some (0,t)=>Nat.beq t 1|_=>true
def arl(k:Bk):k.pl=plo k.opn:=rfl
def NJ(k:Bk):k.rd=Y0 k.opn:=rfl
def ag8:plo none=true:=rfl
def ag9:Y0 none=true:=rfl
def aoT(e t:Nat)(h:e≠0):plo (some (e,t))=true:=by cases e with|zero=>omega|succ e=>rfl
def FB(e t:Nat)(h:e≠0):Y0 (some (e,t))=true:=by cases e with|zero=>omega|succ e=>rfl
def auR:Y0 (some (0,1))=true:=rfl
def aha(k:IntKind)(n:Int):B.kn (.int k n)=true:=rfl
theorem AQ(b:Bool):B.kn (.bool b)=true:=rfl
theorem FW(s:ByteArray):B.kn (.str s)=true:=rfl
def arn(b o:Nat):B.kn (.ptr b o)=true:=rfl
def alZ:B.kn .TB=true:=rfl
def auS(b o n:Nat)(c:Cap):B.kn (.sl b o n c)=true:=rfl
def al0:B.kn .aX=true:=rfl
def auT(b:Nat):B.kn (.mp b)=true:=rfl
def HL.kn{h:Tr Bk}{e:Nat}{v:B}{n:Nat}{G:Nat->List B}(hl:HL h e v n G):v.kn=true:=by rcases hl with⟨-,rfl⟩|⟨b,o,c,rfl,-⟩<;>rfl
def HC.kn{h:Tr Bk}{v:B}{n:Nat}{G:Nat->B}(hl:HC h v n G):v.kn=true:=by rcases hl with⟨-,rfl⟩|⟨b,o,c,rfl,-⟩<;>rfl
def auU(x:B)(l:List B)(o n:Nat):zI (x::l) o n true=bif Nat.beq (((x::l).drop o).take n).length n&&(((x::l).drop o).take n).all B.kn then some (.agg (((x::l).drop o).take n))else none:=rfl
def auV(x:B)(l:List B)(o n:Nat):zI (x::l) o n false=match(x::l).drop o with|x::_=>bif x.kn then some (.c x)else none|[]=>none:=rfl
def auW(x:B)(l vs:List B):yw (x::l) 0 vs=bif Nat.ble vs.length (x::l).length then some (vs++(x::l).drop vs.length)else none:=by rw[yw]
def auX(x:B)(l:List B)(o:Nat)(vs:List B):yw (x::l) (o+1) vs=match yw l o vs with|some r=>some (x::r)|none=>none:=by rfl
def ahb(a b:Nat):(Int.ofNat a=Int.ofNat b)=(a=b):=propext ⟨Int.ofNat.inj,λe=>by rw[e]⟩
def eq_neg(a b:Nat):(Int.ofNat a=Int.negSucc b)=False:=by simp
def auY[h:Decidable True]: @decide True h=true:=by simp
def auZ[h:Decidable False]: @decide False h=false:=by simp
attribute [go_sem] aed alU alV aqY aqZ ag3 ad5 wpOps_cons agC aqm o_load alk alm aln aqn auv aqo aqp aqr aqs auw auy auz auA auB auC auD aqt aqu auE aoO auF alo alp aqv auH auG auI alq CJ aqw Zy auJ alj ad4 aqx alr auK aqy J3 rep auL als aqz axu axv adR alh adS adT adU adV adW adZ ad1 ad2 V.cells ali auu agB aql aA axw axx cW eC Bool.and_true Bool.true_and List.drop_succ_cons ip gh cM bX List.length_nil Nat.reduceAdd cK cE abJ QS xE Hz au dy List.nil_append gO List.map_cons List.map_nil result agA aG alB alC alx aqH alF alH agM agO agQ aqJ aqL aqN agS agU aqP aqR alI agW alK aqT agY alM alO ad9 aly alz aqA agF ad6 agG alu agH ad7 ZU agI ad8 agE alA agJ aqI alG agN agP agR aqK aqM aqO agT agV aqQ aqS alJ agX alL aqU agZ alN alP ZW WY aeb alD auM ZV aea List.contains_cons List.contains_nil Nat.reduceBEq Bool.or_false Bool.or_true Bool.false_or Bool.true_or cD fP List.getD_cons_zero List.getD_cons_succ am and_true alX aqB aqC aqD aqE aqF aqG alv auN alE aq5 aqW auO seq_eq ag2 alR alS aqX alT ag4 aec alW aq6 aq7 aq8 aq9 ara arb ard arf arh alY ari arj aha AQ FW arn alZ auS al0 auT auU auV auW auX ahb eq_neg auY auZ arl NJ ag8 ag9 aoT FB auR ag5 ark ZX ag6 ag7 aur ZQ ZR agz adQ aus aut aqh agy aup aqg agx adP WT aqe WR aqf WS adO auq alf abI aqi WV aqj aqk alg WU
def bJ:Nat->(Nat->List B)->List B
 |0,_=>[]
 |n+1,G=>G 0++bJ n λi=>G (i+1)
def W9{e:Nat}:∀{n:Nat}{G:Nat->List B}{i:Nat},(∀j,(G j).length=e)->i<n->∃r,(bJ n G).drop (i*e)=G i++r
 |0,_,_,_,h=>jb
 |n+1,G,0,_,_=>⟨bJ n λi=>G (i+1),by rw[ir];rfl⟩
 |n+1,G,i+1,hG,h=>by obtain⟨r,hr⟩:=W9 (G:=λi=>G (i+1)) (i:=i) (λj=>hG (j+1)) (by omega:i<n);refine⟨r,?_⟩;show(G 0++bJ n λi=>G (i+1)).drop _=_;rw[cB,eZ,<-hG 0,List.drop_length_add_append,hG 0];exact hr
def y7{e n i k m:Nat}{G:Nat->List B}(g:Bool)(hG:∀j,(G j).length=e)(h:i<n)(hk:k+m<=e)(hm:0<m):zI (bJ n G) (i*e+k) m g=zI (G i) k m g:=by
 obtain⟨r,hr⟩:=W9 hG h;have hd:(bJ n G).drop (i*e+k)=(G i).drop k++r:=by rw[<-List.drop_drop,hr,List.drop_append_of_le_length kd]
 have hl:((G i).drop k).length=e-k:=by grind
 unfold zI;grind
def ahc:∀(p:List B) (l:List B) (o:Nat) (vs:List B),yw (p++l) (p.length+o) vs=match yw l o vs with|some r=>some (p++r)|none=>none
 |[],l,o,vs=>by grind
 |x::p,l,o,vs=>by rw[gO,bX,show p.length+1+o=(p.length+o)+1 by omega,yw,ahc p l o vs];cases yw l o vs<;>rfl
def abM:∀(p:List B) (l:List B) (o:Nat) (vs:List B),o+vs.length<=p.length->yw (p++l) o vs=match yw p o vs with|some r=>some (r++l)|none=>none
 |p,l,0,vs,h=>by grind[yw,xE]
 |[],l,o+1,vs,h=>by simp at h
 |x::p,l,o+1,vs,h=>by rw[gO,yw,yw,abM p l o vs (by simp only[bX]at h;omega)];cases yw p o vs<;>rfl
def jk(G:Nat->List B)(i:Nat)(r:List B):Nat->List B:=λj=>if j=i then r else G j
def y8{e k:Nat}{vs:List B}:∀{n i:Nat}{G:Nat->List B},(∀j,(G j).length=e)->i<n->k+vs.length<=e->yw (bJ n G) (i*e+k) vs=match yw (G i) k vs with|some r=>some (bJ n (jk G i r))|none=>none
 |0,_,_,_,h,_=>jb
 |n+1,0,G,hG,_,hk=>by rw[ir,cK];show yw (G 0++_) k vs=_;rw[abM _ _ _ _ kd];rfl
 |n+1,i+1,G,hG,h,hk=>by
  show yw (G 0++bJ n λi=>G (i+1)) _ vs=_;rw[show(i+1)*e+k=(G 0).length+(i*e+k) by rw[hG,cB];omega,ahc,y8 (λj=>hG (j+1)) jb hk];cases yw (G (i+1)) k vs with
  |none=>rfl
  |some r=>
   show some _=some _
   congr 1
   show G 0++_=jk G (i+1) r 0++_
   congr 2
   funext j
   unfold jk
   simp only[Nat.add_right_cancel_iff]
theorem dh:∀{n:Nat}{G H:Nat->List B},(∀i,i<n->G i=H i)->bJ n G=bJ n H
 |0,_,_,_=>rfl
 |n+1,G,H,h=>by unfold bJ;rw[h 0 jb,dh λi hi=>h (i+1) jb]
def KQ(z:List B):∀n,rep z n=bJ n λ_=>z
 |0=>rfl
 |n+1=>by unfold rep bJ;rw[KQ z n]
theorem l9:∀(n:Nat) (G:Nat->List B) (r:List B),bJ n G++r=bJ (n+1) (jk G n r)
 |0,G,r=>by grind[bJ,jk]
 |n+1,G,r=>by rw[bJ,ik,l9 n _ r];show _=jk G (n+1) r 0++bJ (n+1) _;congr 2;funext j;unfold jk;simp only[Nat.add_right_cancel_iff]
def qU{e:Nat}:∀{n:Nat}{G:Nat->List B},(∀j,(G j).length=e)->(bJ n G).length=n*e
 |0,_,_=>by simp[bJ]
 |n+1,G,h=>by rw[bJ,aD,h,qU λj=>h (j+1),cB];omega
def xG{h:Tr Bk}{b o n:Nat}{cs:List B}(e:ld h b o n true=some (.agg cs))(k m:Nat)(g:Bool)(hk:k+m<=n)(hm:0<m):ld h b (o+k) m g=zI cs k m g:=by
 unfold ld at e⊢;cases hb:h b with
 |none=>grind
 |some bk=>
  rw[hb]at e
  dsimp only at e⊢
  cases hr:bk.rd with
  |false=>grind
  |true=>
   rw[hr]at e
   simp only[cD]at e⊢
   unfold zI at e
   dsimp only at e
   cases hx:(Nat.beq ((bk.cells.drop o).take n).length n&&((bk.cells.drop o).take n).all B.kn)with
   |false=>grind
   |true=>
    rw[hx]at e
    cases e
    rw[af]at hx
    have hl:=ap hx.1
    rw[dt]at hl
    unfold zI
    cases g with
    |true=>
     grind[List.drop_take,List.drop_drop]
    |false=>
     dsimp only
     rw[List.drop_take,List.drop_drop]
     have hd:n-k=(n-k-1)+1:=jb
     grind
def AU{h:Tr Bk}{b o n:Nat}{cs:List B}(e:ld h b o n true=some (.agg cs))(m:Nat)(g:Bool)(hk:m<=n)(hm:0<m):ld h b o m g=zI cs 0 m g:=xG e 0 m g jb hm
def gZ(q:Rat):List B:=[.bool (rn q),.str (rs q),.str (rd q)]
def bY(n:Nat)(f:Nat->Rat):List B:=bJ n λi=>gZ (f i)
def aN{α:Type}(f:Nat->α)(i:Nat)(q:α):Nat->α:=λj=>if j=i then q else f j
def Uf(n:Nat)(f:Nat->Rat)(i:Nat)(h:i<n):zI (bY n f) (i*3) 3 true=some (.agg [.bool (rn (f i)),.str (rs (f i)),.str (rd (f i))]):=by unfold bY;have:=y7 (e:=3) (k:=0) (m:=3) (G:=λi=>gZ (f i)) true (λ_=>rfl) h jj jj;rw[cE]at this;rw[this];rfl
def al1(n:Nat)(f:Nat->Rat)(i:Nat)(q:Rat)(h:i<n):yw (bY n f) (i*3) [.bool (rn q),.str (rs q),.str (rd q)]=some (bY n (aN f i q)):=by unfold bY;have:=y8 (e:=3) (k:=0) (vs:=gZ q) (G:=λi=>gZ (f i)) (λ_=>rfl) h (cT 3);rw[cE]at this;show yw _ _ (gZ q)=_;rw[this];show some _=some _;congr 2;funext j;unfold jk aN;split<;>rfl
theorem dH{n:Nat}{f g:Nat->Rat}(h:∀i,i<n->f i=g i):bY n f=bY n g:=dh λi hi=>by grind
def ahd(n:Nat):rep [.bool (rn 0),.str (rs 0),.str (rd 0)] n=bY n λ_=>0:=KQ _ n
def aee(n:Nat)(f:Nat->Rat)(q:Rat):bY n f++[.bool (rn q),.str (rs q),.str (rd q)]=bY (n+1) (aN f n q):=by unfold bY;rw[show [B.bool (rn q),.str (rs q),.str (rd q)]=gZ q from rfl,l9];congr 1;grind[jk,aN]
theorem NK(n:Nat)(f:Nat->Rat):(bY n f).length=n*3:=qU λ_=>rfl
def ones(n:Nat)(g:Nat->B):List B:=bJ n λi=>[g i]
def abN(n:Nat)(g:Nat->B)(i:Nat)(h:i<n):zI (ones n g) (i*1) 1 false=bif (g i).kn then some (.c (g i))else none:=by unfold ones;have:=y7 (e:=1) (k:=0) (m:=1) (G:=λi=>[g i]) false (λ_=>rfl) h jj jj;rw[cE]at this;rw[this];rfl
def al2(n:Nat)(g:Nat->B)(i:Nat)(x:B)(h:i<n):yw (ones n g) (i*1) [x]=some (ones n (aN g i x)):=by unfold ones;have:=y8 (e:=1) (k:=0) (vs:=[x]) (G:=λi=>[g i]) (λ_=>rfl) h (cT 1);rw[cE]at this;rw[this];show some _=some _;congr 2;grind[jk,aN]
def bF{n:Nat}{f g:Nat->B}(h:∀i,i<n->f i=g i):ones n f=ones n g:=dh λi hi=>by grind
def ahe(x:B)(n:Nat):rep [x] n=ones n λ_=>x:=KQ _ n
theorem NM(n:Nat)(g:Nat->B):(ones n g).length=n*1:=qU λ_=>rfl
theorem aP{α:Type}(f:Nat->α)(i:Nat)(q:α):aN f i q i=q:=ab rfl
theorem aQ{α:Type}(f:Nat->α)(i j:Nat)(q:α)(h:j≠i):aN f i q j=f j:=ae h
def Ug:Option V->Nat->Option Nat
 |none,d=>some d
 |some v,_=>J3 v
def ahf(b:Option O)(tm:Tr V)(d:Nat):V7 b tm d=Ug (b.map (·.ev tm)) d:=by cases b<;>rfl
def Uh(iC:Nat)(x:V)(lo hi mx:Option V):Option V:=
 match x with
 |.c (.sl b o n c)=>
  match Ug lo 0,Ug hi n with
  |some l,some h=>bif Nat.ble l h&&Nat.ble h n then
    match mx with
    |none=>(match c with
     |.ex k=>bif Nat.blt l k then some (.c (.sl b (o+l*iC) (h-l) (.ex (k-l))))else some (.c (.sl b o 0 .any))
     |.opn=>bif Nat.beq l 0 then some (.c (.sl b o h .opn))else bif Nat.blt l n then some (.c (.sl b (o+l*iC) (h-l) .any))else some (.c (.sl b o 0 .any))
     |.any=>bif Nat.blt l n then some (.c (.sl b (o+l*iC) (h-l) .any))else some (.c (.sl b o 0 .any)))
    |some y=>match J3 y with
     |some q=>bif Nat.ble h q&&Nat.ble q n then bif Nat.beq l 0 then some (.c (.sl b o h (bif Nat.beq n 0 then .any else .ex q)))else none else none
     |none=>none
   else none
  |_,_=>none
 |.c .aX=>match Ug lo 0,Ug hi 0 with
  |some 0,some 0=>(match mx with|none=>some (.c .aX)|some y=>match J3 y with|some 0=>some (.c .aX)|_=>none)
  |_,_=>none
 |_=>none
def Xa(iC:Nat)(x:O)(lo hi mx:Option O)(tm:Tr V):MW iC x lo hi mx tm=Uh iC (x.ev tm) (lo.map (·.ev tm)) (hi.map (·.ev tm)) (mx.map (·.ev tm)):=by unfold MW Uh;simp only[sO,ahf];cases mx<;>rfl
def al3(E:Env)(tm:Tr V)(σ:St)(K:V->St->Prop)(iC:Nat)(x:O)(lo hi mx:Option O):wpOp E (.slice iC x lo hi mx) tm σ K=Gs (Uh iC (x.ev tm) (lo.map (·.ev tm)) (hi.map (·.ev tm)) (mx.map (·.ev tm))) λv=>K v σ:=by rw[iF _ _ _ _ (by rfl) λ_ _ h=>by cases h];show Gs (MW iC x lo hi mx tm) _=_;rw[Xa]
def al4:B->Prop
 |.sl _ _ n (.ex k)=>n<=k
 |_=>True
def aro{v:B}{n h:Nat}(hc:al4 v)(hv:(n=0/\v=.aX)\/∃b o c,v=.sl b o n c/\0<n)(hh:h<=n)(iC:Nat):∃v',Uh iC (.c v) none (some (.c (.int .i64 (.ofNat h)))) none=some (.c v')/\al4 v'/\((n=0/\v'=.aX)\/∃b o c c',v=.sl b o n c/\v'=.sl b o h c'):=by
 rcases hv with⟨rfl,rfl⟩|⟨b,o,c,rfl,hn⟩
 .have:h=0:=jb;subst this;exact⟨.aX,rfl,trivial,.inl ⟨rfl,rfl⟩⟩
 .cases c with
  |ex k=>
   have hc:n<=k:=hc
   refine⟨.sl b o h (.ex k),?_,by show h<=k;omega,.inr ⟨b,o,_,_,rfl,rfl⟩⟩
   grind[Uh,Ug,J3,xE,Hz]
  |opn=>
   refine⟨.sl b o h .opn,?_,trivial,.inr ⟨b,o,_,_,rfl,rfl⟩⟩
   grind[Uh,Ug,J3,xE,abJ]
  |any=>
   refine⟨.sl b o h .any,?_,trivial,.inr ⟨b,o,_,_,rfl,rfl⟩⟩
   grind[Uh,Ug,J3,xE,Hz]
attribute [go_sem] al3 Option.map_some Option.map_none
attribute [go_sem] Uf al1 ahd abN al2 ahe
structure aU(ex:List Nat)(σ σ':St):Prop where
 le:σ.aj<=σ'.aj
 wf:WF σ'
 old:∀b,b<σ.aj->¬b∈ex->σ'.h b=σ.h b
def Fr.ex{σ σ':St}(h:Fr σ σ')(ex:List Nat):aU ex σ σ':=⟨h.le,h.wf,λb hb _=>h.old b hb⟩
theorem aU.refl{σ:St}{ex:List Nat}(h:WF σ):aU ex σ σ:=(Fr.refl h).ex ex
def aU.trans{ex:List Nat}{σ σ' Kw:St}(h:aU ex σ σ')(h':aU ex σ' Kw):aU ex σ Kw:=⟨aw h.le h'.le,h'.wf,λb hb hx=>(h'.old b (aL hb h.le) hx).trans (h.old b hb hx)⟩
def aU.to{ex:List Nat}{σ0 σ σ':St}(h:Fr σ0 σ)(he:aU ex σ σ')(hx:∀b∈ex,σ0.aj<=b):Fr σ0 σ':=⟨aw h.le he.le,he.wf,λb hb=>(he.old b (aL hb h.le) λhm=>by grind).trans (h.old b hb)⟩
def aU.to'{ex ex':List Nat}{σ0 σ σ':St}(h:aU ex' σ0 σ)(he:aU ex σ σ')(hx:∀b∈ex,σ0.aj<=b\/b∈ex'):aU ex' σ0 σ':=⟨aw h.le he.le,he.wf,λb hb hn=>(he.old b (aL hb h.le) λhm=>by grind).trans (h.old b hb hn)⟩
def aU.new1{ex:List Nat}{σ:St}{h:Tr Bk}{n:Nat}{k:Bk}(hf:aU ex σ ⟨h,n⟩):aU ex σ ⟨hset h n k,n+1⟩:=
 ⟨Nat.le_succ_of_le hf.le,λb hb=>by
  have hb:n+1<=b:=hb;show hset h n k b=none;rw[au _ _ _ _ jb];exact hf.wf b (show n<=b by omega),λb hb hx=>by
  show hset h n k b=_;have:σ.aj<=n:=hf.le;rw[au _ _ _ _ jb];exact hf.old b hb hx⟩
def aU.set1{ex:List Nat}{σ:St}{h:Tr Bk}{n b:Nat}{k:Bk}(hf:aU ex σ ⟨h,n⟩)(hb:σ.aj<=b\/b∈ex)(hb2:b<n):aU ex σ ⟨hset h b k,n⟩:=
 ⟨hf.le,λj hj=>by
  have hj:n<=j:=hj;show hset h b k j=none;rw[au _ _ _ _ jb];exact hf.wf j hj,λj hj hx=>by
  show hset h b k j=_;rw[au _ _ _ _ (λe=>by grind)];exact hf.old j hj hx⟩
theorem aU.ld{ex:List Nat}{σ σ':St}(h:WF σ)(hf:aU ex σ σ'){b o n:Nat}{g:Bool}{v:V}(hx:¬b∈ex)(hb:Xe.ld σ.h b o n g=some v):Xe.ld σ'.h b o n g=some v:=by have hlt:=h.dB hb;unfold Xe.ld at hb⊢;rw[hf.old b hlt hx];exact hb
def aU.get{ex:List Nat}{σ σ':St}(h:WF σ)(hf:aU ex σ σ'){b:Nat}{k:Bk}(hx:¬b∈ex)(hb:σ.h b=some k):σ'.h b=some k:=by rw[hf.old b (h.lt hb) hx];exact hb
def uK:Nat:=1000
def dK:Nat:=29000000
def eK:Nat:=29002000
def Zk(D k:Nat)(q:Rat):Prop:=∃a:Int,q=(a:Rat)/(D:Rat)/\a.natAbs<=k*(D*256^uK)
def Cb(D:Nat):Prop:=0<D/\D<256^dK
def al5{D k u d s a:Nat}(hD:D<256^d)(hk:k<=256^u)(hs:u+d+u<=s)(ha:a<=k*(D*256^u)):a<256^s:=by have h1:(256:Nat)^(u+d+u)<=256^s:=bB jj hs;refine cY ha (aL ?_ h1);rw[eg,eg,gb];exact cY (bw _ hk) (Nat.mul_lt_mul_of_pos_left (eM hD (du jj)) (du jj))
def Sm.int{k:Nat}{a:Int}(hk:k≠0)(h:a.natAbs<256^k):Sm k (a:Rat):=⟨by show(a:Rat).num.natAbs<_;simp_all,by simp_all⟩
section
variable {D k l:Nat} {p q:Rat}
def Cb.ne(h:Cb D):(D:Rat)≠0:=by have:=h.1;intro e;simp_all
def Zk.int{a:Int}(hD:Cb D)(hk:k<=256^uK)(h:a.natAbs<=k*(D*256^uK)):Sm eK (a:Rat):=Sm.int jj (al5 hD.2 hk jj h)
def Zk.sz(h:Zk D k q)(hD:Cb D)(hk:k<=256^uK):Sz q:=by obtain⟨a,rfl,h2⟩:=h;have h3:Sm dK ((D:Int):Rat):=Sm.int jj hD.2;exact((Zk.int hD hk h2).div h3 hD.ne).mono jj
def Zk.au0(h:Zk D k p)(h':Zk D l q)(hD:Cb D)(hk:k<=256^uK)(hl:l<=256^uK)(h0:q≠0):Sz (p/q):=by
 obtain⟨a,rfl,h2⟩:=h;obtain⟨b,rfl,h3⟩:=h';have hb:(b:Rat)≠0:=λe=>h0 kd;have e:(a:Rat)/(D:Rat)/((b:Rat)/(D:Rat))=(a:Rat)/(b:Rat):=by grind
 rw[e];exact((Zk.int hD hk h2).div (Zk.int hD hl h3) hb).mono jj
def Zk.mono(h:Zk D k q)(hkl:k<=l):Zk D l q:=by obtain⟨a,e,h2⟩:=h;exact⟨a,e,aw h2 (bw _ hkl)⟩
theorem Zk.add(h:Zk D k p)(h':Zk D l q):Zk D (k+l) (p+q):=by
 obtain⟨a,rfl,h2⟩:=h;obtain⟨b,rfl,h3⟩:=h';refine⟨a+b,?_,?_⟩
 .rw[Rat.intCast_add];grind
 .rw[ie];omega
def Zk.neg(h:Zk D k p):Zk D k (-p):=by obtain⟨a,rfl,h2⟩:=h;refine⟨-a,?_,jb⟩;grind
def Zk.sub(h:Zk D k p)(h':Zk D l q):Zk D (k+l) (p-q):=by rw[jt];exact h.add h'.neg
theorem Zk.zero:Zk D k 0:=⟨0,by grind,by simp⟩
end
def hdel(h:Tr Bk)(b:Nat):Tr Bk:=h.set b none
theorem Ui(h:Tr Bk)(b j:Nat):hdel h b j=if j=b then none else h j:=Tr.uo h b none j
theorem iG(h:Tr Bk)(b j:Nat)(e:j≠b):hdel h b j=h j:=by grind[Ui]
def arp(h:Tr Bk)(b j o n:Nat)(g:Bool)(e:j≠b):ld (hdel h b) j o n g=ld h j o n g:=by grind[ld,iG]
def al6(o:Option (V×St))(K:V->St->Prop):Prop:=match o with|some (v,σ)=>K v σ|none=>False
@[congr] theorem arq {o o' : Option (V×St)} {K:V→St→Prop} (h:o=o'):al6 o K=al6 o' K:=by rw [h]
def aef(v:V)(σ:St)(K:V->St->Prop):al6 (some (v,σ)) K=K v σ:=rfl
def ahg(ty iC bytes:Nat)(s x:V)(σ:St):Option (V×St):=
 match x with
 |.c .aX=>sS ty iC bytes s 0 [] σ
 |.c (.sl b o m _)=>bif Nat.beq m 0 then sS ty iC bytes s 0 [] σ else match σ.h b with
  |some k=>bif k.rd&&(Nat.beq ((k.cells.drop o).take (m*iC)).length (m*iC)&&((k.cells.drop o).take (m*iC)).all B.kn)then sS ty iC bytes s m ((k.cells.drop o).take (m*iC)) σ else none
  |none=>none
 |_=>none
def au1(E:Env)(tm:Tr V)(σ:St)(K:V->St->Prop)(ty iC bytes:Nat)(s x:O):wpOp E (.app ty iC bytes s x) tm σ K=al6 (ahg ty iC bytes (s.ev tm) (x.ev tm) σ) K:=by rfl
def aeg(ty iC bytes:Nat)(s:V)(σ:St):ahg ty iC bytes s (.c .aX) σ=sS ty iC bytes s 0 [] σ:=rfl
def ahh(ty iC bytes:Nat)(s:V)(b o:Nat)(c:Cap)(σ:St):ahg ty iC bytes s (.c (.sl b o 0 c)) σ=sS ty iC bytes s 0 [] σ:=rfl
def al7(ty iC bytes:Nat)(s:V)(b o m:Nat)(c:Cap)(σ:St)(hm:0<m):ahg ty iC bytes s (.c (.sl b o m c)) σ=match σ.h b with
  |some k=>bif k.rd&&(Nat.beq ((k.cells.drop o).take (m*iC)).length (m*iC)&&((k.cells.drop o).take (m*iC)).all B.kn)then sS ty iC bytes s m ((k.cells.drop o).take (m*iC)) σ else none
  |none=>none:=by
 grind[ahg,QS]
variable {ty iC bytes n m:Nat} {news:List B} {h:Tr Bk} {nx b:Nat}
def QT(h1:0<m)(h2:0<iC)(h3:m*bytes<=140737488355328)(h4:m<=1073741824):sS ty iC bytes (.c .aX) m news ⟨h,nx⟩=some (.c (.sl nx 0 m .opn),⟨hset h nx ⟨news,some (iC,ty)⟩,nx+1⟩):=by grind[sS,QS,Hz,xE,kJ]
def apK(ty iC bytes n m:Nat)(news:List B)(b:Nat)(h:Tr Bk)(nx:Nat)(k:Option Bk):Option (V×St):=match k with
 |some ⟨cells,some (e,t)⟩=>bif Nat.blt 0 e&&Nat.beq 0 0&&(Nat.beq e iC&&(Nat.beq t ty&&(Nat.ble ((n+m)*bytes) 140737488355328&&(Nat.ble (n+m) 1073741824&&Nat.ble (n*iC) cells.length))))then
   some (.c (.sl nx 0 (n+m) .opn),⟨hset (hdel h b) nx ⟨cells.take (n*iC)++news,some (iC,ty)⟩,nx+1⟩)else none
 |_=>none
def ahi(h1:0<m):sS ty iC bytes (.c (.sl b 0 n .opn)) m news ⟨h,nx⟩=apK ty iC bytes n m news b h nx (h b):=by
 unfold sS apK;dsimp only;rw[QS (by omega:m≠0)];simp only[fP];split
 .next cells e t hk=>
  rw[hk];dsimp only;cases(Nat.blt 0 e&&Nat.beq 0 0&&(Nat.beq e iC&&(Nat.beq t ty&&(Nat.ble ((n+m)*bytes) 140737488355328&&(Nat.ble (n+m) 1073741824&&Nat.ble (n*iC) cells.length)))))with
  |false=>rfl
  |true=>
   simp only[cD,Tr.put,kJ,sO]
   rfl
 simp
def Xb{cells:List B}(h2:0<iC)(h3:(n+m)*bytes<=140737488355328)(h4:n+m<=1073741824)(h5:n*iC<=cells.length):apK ty iC bytes n m news b h nx (some ⟨cells,some (iC,ty)⟩)=some (.c (.sl nx 0 (n+m) .opn),⟨hset (hdel h b) nx ⟨cells.take (n*iC)++news,some (iC,ty)⟩,nx+1⟩):=by simp_all[apK,Hz,xE]
def aeh(b o n:Nat)(σ:St):sS ty iC bytes (.c (.sl b o n (.ex n))) 0 news σ=some (.c (.sl b o n (.ex n)),σ):=by simp_all[sS,xE]
def ahj(b o n:Nat)(σ:St):sS ty iC bytes (.c (.sl b o n .any)) 0 news σ=some (.c (.sl b o n .any),σ):=rfl
def ZY(σ:St)(h1:0<m)(h2:0<iC)(h3:m*bytes<=140737488355328)(h4:m<=1073741824):sS ty iC bytes (.c .aX) m news σ=some (.c (.sl σ.aj 0 m .opn),⟨hset σ.h σ.aj ⟨news,some (iC,ty)⟩,σ.aj+1⟩):=QT h1 h2 h3 h4
def Z4(σ:St):sS ty iC bytes (.c .aX) 0 news σ=some (.c .aX,σ):=rfl
def QU(σ:St)(h1:0<m):sS ty iC bytes (.c (.sl b 0 n .opn)) m news σ=apK ty iC bytes n m news b σ.h σ.aj (σ.h b):=ahi h1
def Z5{σ:St}(hb:σ.h b=some ⟨[],none⟩)(h1:0<m)(h2:0<iC)(h3:m*bytes<=140737488355328)(h4:m<=1073741824):sS ty iC bytes (.c (.sl b 0 0 (.ex 0))) m news σ=some (.c (.sl σ.aj 0 m .opn),⟨hset σ.h σ.aj ⟨news,some (iC,ty)⟩,σ.aj+1⟩):=by unfold sS;dsimp only;rw[QS (by omega:m≠0),hb];simp only[fP,Bk.rd,ir,cM,eC,Hz h2,cK,Hz h1,xE h3,xE h4,List.length_nil,eo,cD,kJ,sO,ip,List.nil_append,Bool.true_and,cE];rfl
def Fr.nP{σ:St}{h:Tr Bk}{n b:Nat}(hf:Fr σ ⟨h,n⟩)(h1:σ.aj<=b):Fr σ ⟨hdel h b,n⟩:=
 ⟨hf.le,λj hj=>by
  show hdel h b j=none;rw[Ui];split
  .rfl
  .exact hf.wf j hj,λj hj=>by
  show hdel h b j=_;rw[iG _ _ _ jb];exact hf.old j hj⟩
def aU.nP{ex:List Nat}{σ:St}{h:Tr Bk}{n b:Nat}(hf:aU ex σ ⟨h,n⟩)(h1:σ.aj<=b\/b∈ex):aU ex σ ⟨hdel h b,n⟩:=
 ⟨hf.le,λj hj=>by
  show hdel h b j=none;rw[Ui];split
  .rfl
  .exact hf.wf j hj,λj hj hx=>by
  show hdel h b j=_;rw[iG _ _ _ (λe=>by grind)];exact hf.old j hj hx⟩
def aS:Nat->Nat->B
 |0,_=>.aX
 |n+1,b=>.sl b 0 (n+1) .opn
def kK:Nat->Tr Bk->Nat->Tr Bk
 |0,h,_=>h
 |_+1,h,b=>hdel h b
def yA:Nat->Tr Bk->Nat->Option Bk
 |0,_,_=>none
 |_+1,h,b=>h b
def gF(n:Nat)(G:Nat->List B)(e ty:Nat):Option Bk:=match n with
 |0=>none
 |n+1=>some ⟨bJ (n+1) G,some (e,ty)⟩
def LG(G:Nat->List B)(e:Nat):Prop:=∀j,(G j).length=e
def apF(ty iC bytes n m:Nat)(news:List B)(b:Nat)(h:Tr Bk)(nx:Nat)(k:Option Bk):Option (V×St):=match n with
 |0=>sS ty iC bytes (.c .aX) m news ⟨h,nx⟩
 |n+1=>apK ty iC bytes (n+1) m news b h nx k
theorem KR(n b:Nat):(aS n b).kn=true:=by cases n<;>rfl
def H6(n b:Nat):lenV (.c (aS n b))=some (.c (.int .i64 (.ofNat n))):=by cases n<;>rfl
theorem dX(n:Nat)(h:Tr Bk)(b j:Nat)(e:n=0\/j≠b):kK n h b j=h j:=by
 cases n with
 |zero=>rfl
 |succ n=>exact iG _ _ _ jb
def al8(k:Nat)(h:Tr Bk)(b j o n:Nat)(g:Bool)(e:k=0\/j≠b):ld (kK k h b) j o n g=ld h j o n g:=by grind[ld,dX]
theorem wF{n:Nat}{h h':Tr Bk}{b:Nat}(e:n=0\/h' b=h b):yA n h' b=yA n h b:=by
 cases n with
 |zero=>rfl
 |succ n=>exact e.resolve_left jb
def ahk(n:Nat)(h:Tr Bk)(j b:Nat)(k:Bk)(e:n=0\/b≠j):yA n (hset h j k) b=yA n h b:=wF (by grind[au])
def ahl(σ:St)(h1:0<m):sS ty iC bytes (.c (aS n b)) m news σ=apF ty iC bytes n m news b σ.h σ.aj (yA n σ.h b):=by
 cases n with
 |zero=>rfl
 |succ n=>exact QU σ h1
def ars{G:Nat->List B}(h1:0<m)(h2:0<iC)(h3:(n+m)*bytes<=140737488355328)(h4:n+m<=1073741824)(hG:LG G iC):apF ty iC bytes n m news b h nx (gF n G iC ty)=some (.c (.sl nx 0 (n+m) .opn),⟨hset (kK n h b) nx ⟨bJ n G++news,some (iC,ty)⟩,nx+1⟩):=by
 cases n with
 |zero=>
  rw[cK]at h3 h4⊢
  exact QT h1 h2 h3 h4
 |succ n=>
  show apK ty iC bytes (n+1) m news b h nx (some ⟨bJ (n+1) G,some (iC,ty)⟩)=_
  rw[Xb h2 h3 h4 (by rw[qU hG];omega),<-qU (n:=n+1) hG,cC]
  rfl
def Fr.kK{σ:St}{h:Tr Bk}{n b k:Nat}(hf:Fr σ ⟨h,n⟩)(h1:k=0\/σ.aj<=b):Fr σ ⟨Xe.kK k h b,n⟩:=by
 cases k with
 |zero=>exact hf
 |succ k=>exact Fr.nP hf jb
def aU.kK{ex:List Nat}{σ:St}{h:Tr Bk}{n b k:Nat}(hf:aU ex σ ⟨h,n⟩)(h1:σ.aj<=b\/b∈ex):aU ex σ ⟨Xe.kK k h b,n⟩:=by
 cases k with
 |zero=>exact hf
 |succ k=>exact aU.nP hf h1
attribute [go_sem] KR H6 dX al8 ahk ahl ars
def Fr.up{σ σ':St}{n:Nat}(hf:Fr σ σ')(hn:σ'.aj<=n):Fr σ ⟨σ'.h,n⟩:=⟨aw hf.le hn,λb hb=>hf.wf b (aw hn hb),hf.old⟩
def Fr.oG{σ:St}{h:Tr Bk}{n n':Nat}{k:Bk}(hf:Fr σ ⟨h,n⟩)(hn:n<n'):Fr σ ⟨hset h n k,n'⟩:=Fr.up (Fr.new1 hf) hn
theorem fr{σ σ':St}(h:Fr σ σ':=by repeat(first|assumption|exact Fr.refl (by assumption)|exact Fr.up (by assumption) kf|exact Fr.up (Fr.refl (by assumption)) kf|refine Fr.set1 ?_ kf kf|refine Fr.kK ?_ kf|refine Fr.nP ?_ kf|refine Fr.oG ?_ kf)):Fr σ σ':=h
def aU.up{ex:List Nat}{σ σ':St}{n:Nat}(hf:aU ex σ σ')(hn:σ'.aj<=n):aU ex σ ⟨σ'.h,n⟩:=⟨aw hf.le hn,λb hb=>hf.wf b (aw hn hb),hf.old⟩
def aU.oG{ex:List Nat}{σ:St}{h:Tr Bk}{n n':Nat}{k:Bk}(hf:aU ex σ ⟨h,n⟩)(hn:n<n'):aU ex σ ⟨hset h n k,n'⟩:=aU.up (aU.new1 hf) hn
def aC.st{E:Env}{f:Nat}{args:List V}{σ:St}{K:V->St->Prop}(P:St->Prop)(h:P σ)(h2:P σ->aC E f args σ K):aC E f args σ K:=h2 h
def bP.st{E:Env}{c:AC}{tm:Tr V}{σ:St}{Q:AX->Tr V->St->Prop}(P:St->Prop)(h:P σ)(h2:P σ->bP E c tm σ Q):bP E c tm σ Q:=h2 h
theorem QW{e:Nat}{l:List B}:∀{n:Nat}{o:Nat}{G:Nat->List B},(∀i,i<n->zI l (o+i*e) e true=some (.agg (G i)))->(l.drop o).take (n*e)=bJ n G/\(bJ n G).length=n*e/\(bJ n G).all B.kn=true
 |0,o,G,_=>by rw[ir,cM];exact⟨rfl,rfl,rfl⟩
 |n+1,o,G,h=>by
  have h0:=h 0 jb;rw[ir,cE]at h0;unfold zI at h0;dsimp only at h0;cases hx:(Nat.beq ((l.drop o).take e).length e&&((l.drop o).take e).all B.kn)with
  |false=>grind
  |true=>
   rw[hx]at h0
   have e0:(l.drop o).take e=G 0:=by grind
   rw[af]at hx
   have hl:=ap hx.1
   obtain⟨h1,h2,h3⟩:=QW (o:=o+e) (n:=n) (G:=λi=>G (i+1)) λi hi=>by have:=h (i+1) jb;rw[cB,eZ (i*e),<-Nat.add_assoc]at this;exact this
   refine⟨?_,?_,?_⟩
   .unfold bJ
    rw[<-e0,<-h1,<-List.drop_drop,cB,eZ (n*e),List.take_add]
   .unfold bJ
    rw[aD,h2,<-e0,hl,cB,eZ]
   .unfold bJ
    rw[List.all_append,h3,<-e0,hx.2];rfl
def QX{h:Tr Bk}{e b o n:Nat}{G:Nat->List B}(hn:0<n)(hl:∀i,i<n->ld h b (o+i*e) e true=some (.agg (G i))):∃k,h b=some k/\k.rd=true/\(k.cells.drop o).take (n*e)=bJ n G/\(bJ n G).length=n*e/\(bJ n G).all B.kn=true:=by grind[Go.Proofs.Xe.ld,Go.Proofs.Xe.QW]
def aei(n:Nat)(f:Nat->Rat):(bY n f).take (n*3)=bY n f:=by grind[NK]
def aej(n:Nat)(g:Nat->B):(ones n g).take (n*1)=ones n g:=by grind[NM]
def ahm(n:Nat)(f:Nat->Rat):n*3<=(bY n f).length:=by grind[NK]
def al9(h1:0<m)(h2:0<iC)(h3:m*bytes<=140737488355328)(h4:m<=1073741824):sS ty iC bytes (.c (.sl b 0 0 (.ex 0))) m news ⟨hset h b ⟨[],none⟩,nx⟩=some (.c (.sl nx 0 m .opn),⟨hset (hset h b ⟨[],none⟩) nx ⟨news,some (iC,ty)⟩,nx+1⟩):=Z5 (aA _ _ _) h1 h2 h3 h4
def Z7:∀{n:Nat}{G:Nat->List B},(∀j,(G j).all B.kn=true)->(bJ n G).all B.kn=true
 |0,_,_=>rfl
 |n+1,G,h=>by unfold bJ;rw[List.all_append,h 0,Z7 λj=>h (j+1)];rfl
def ama(n:Nat)(f:Nat->Rat):(bY n f).all B.kn=true:=Z7 λ_=>rfl
def au2:((Int.ofNat 1:Int):Rat)=1:=rfl
def au3:((Int.ofNat 0:Int):Rat)=0:=rfl
attribute [go_sem] al9 ama Bool.not_true Bool.not_false au2 au3 iG arp aef au1 aeg al7 ahh ahj ZY Z4 QU Xb aeh aei aej NK NM aee
end Go.Proofs.Xe
namespace Go.Proofs.Xe
open Go.RowKit Go.Proofs.Ins
def NP(k:IntKind)(v:V):Option V:=match v with|.c (.int _ n)=>bif I9 k n then some (.c (.int k n))else some (.c (.int k (k.wrap n)))|_=>none
def aru(E:Env)(tm:Tr V)(σ:St)(K:V->St->Prop)(k:IntKind)(x:O):wpOp E (.conv k x) tm σ K=Gs (NP k (x.ev tm)) λv=>K v σ:=iF _ _ _ _ rfl λ_ _ h=>by cases h
def abO{k j:IntKind}{n:Int}(h:k.wrap n=n):NP k (.c (.int j n))=some (.c (.int k n)):=by grind[NP]
def arv(j:IntKind)(a:Nat)(h:a<=9223372036854775807):NP .i64 (.c (.int j (.ofNat a)))=some (.c (.int .i64 (.ofNat a))):=abO (by grind[IntKind.wrap_i64])
def arw(j:IntKind)(a:Nat)(h:a<=18446744073709551615):NP .u64 (.c (.int j (.ofNat a)))=some (.c (.int .u64 (.ofNat a))):=abO (by grind[IntKind.wrap_u64])
def arx(j:IntKind)(a:Nat):NP .u16 (.c (.int j (.ofNat a)))=some (.c (.int .u16 (.ofNat (a%65536)))):=by rfl
theorem C9(op:BinOp)(k:IntKind)(a b:Int):nV op (.c (.int k a)) (.c (.int k b))=TF op k a b:=by unfold nV;simp
def au4(k:IntKind)(a b:Nat)(h:0<b):nV .rem (.c (.int k (.ofNat a))) (.c (.int k (.ofNat b)))=some (.c (.int k (.ofNat (a%b)))):=by grind[C9,TF,BO]
def ahn(k:IntKind)(a b:Nat)(h:0<b)(hw:k.wrap (Int.ofNat (a/b))=Int.ofNat (a/b)):nV .quo (.c (.int k (.ofNat a))) (.c (.int k (.ofNat b)))=some (.c (.int k (.ofNat (a/b)))):=by grind[C9,TF,BO]
def wG(a b m:Nat)(h:a<=m):a/b<=m:=aw (fX _ _) h
def aek(a b:Nat)(h:0<b)(h2:a<=9223372036854775807):nV .quo (.c (.int .i64 (.ofNat a))) (.c (.int .i64 (.ofNat b)))=some (.c (.int .i64 (.ofNat (a/b)))):=ahn _ _ _ h (by have:=wG a b _ h2;grind[IntKind.wrap_i64])
def ael(a b:Nat)(h:0<b)(h2:a<=65535):nV .quo (.c (.int .u16 (.ofNat a))) (.c (.int .u16 (.ofNat b)))=some (.c (.int .u16 (.ofNat (a/b)))):=ahn _ _ _ h (by have:=wG a b _ h2;grind[IntKind.wrap_u16])
def amb(k:IntKind)(a b:Nat)(ha:a<2^k.bits)(hb:b<2^k.bits):(BitVec.ofInt k.bits (Int.ofNat a)&&&BitVec.ofInt k.bits (Int.ofNat b)).toNat=a&&&b:=by grind
def aem(a b:Nat)(ha:a<=9223372036854775807)(hb:b<=9223372036854775807):nV .and (.c (.int .i64 (.ofNat a))) (.c (.int .i64 (.ofNat b)))=some (.c (.int .i64 (.ofNat (a&&&b)))):=by rw[C9];unfold TF BO;dsimp only;rw[amb .i64 a b (by show a<18446744073709551616;omega) (by show b<18446744073709551616;omega),IntKind.wrap_i64];grind[Nat.and_le_left]
def aen(a b:Nat):nV .add (.c (.int .u16 (.ofNat a))) (.c (.int .u16 (.ofNat b)))=some (.c (.int .u16 (.ofNat ((a+b)%65536)))):=by rfl
def aeo(a b:Nat):nV .mul (.c (.int .u16 (.ofNat a))) (.c (.int .u16 (.ofNat b)))=some (.c (.int .u16 (.ofNat (a*b%65536)))):=by rfl
def au5(a b:Nat)(h:a*b<=9223372036854775807):nV .mul (.c (.int .i64 (.ofNat a))) (.c (.int .i64 (.ofNat b)))=some (.c (.int .i64 (.ofNat (a*b)))):=by show mkI .i64 (Int.ofNat a*Int.ofNat b)=_;rw[show Int.ofNat a*Int.ofNat b=Int.ofNat (a*b)from rfl,Ud h]
def au6(k j:IntKind)(a c:Nat):nV .shr (.c (.int k (.ofNat a))) (.c (.int j (.ofNat c)))=some (.c (.int k (.ofNat (a/2^min c k.bits)))):=by
 have e:nV .shr (.c (.int k (.ofNat a))) (.c (.int j (.ofNat c)))=Zx .shr k (.ofNat a) (.ofNat c):=by
  unfold nV;dsimp only;by_cases h:k=j
  .subst h;rw[be rfl];rfl
  grind
 rw[e];unfold Zx;grind
def aho:IntKind.bits .i64=64:=rfl
def ahp:IntKind.bits .u16=16:=rfl
def ahq:IntKind.bits .u64=64:=rfl
def arz(k:IntKind)(a b:Int):nV .eql (.c (.int k a)) (.c (.int k b))=some (.c (.bool (decide (a=b)))):=by rw[C9];rfl
def arA(k:IntKind)(a b:Int):nV .neq (.c (.int k a)) (.c (.int k b))=some (.c (.bool (!decide (a=b)))):=by rw[C9];rfl
attribute [go_sem] aru arv arw arx au4 aek ael aem aen aeo au5 au6 aho ahp ahq arz arA
end Go.Proofs.Xe
end
