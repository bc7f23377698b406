import Derived.Test.YthkggcakedkboaaGreatDoorZ10
import Derived.Attr
set_option linter.all false
noncomputable section
namespace Go.Proofs.Xe
open Go.RowKit Go.Proofs.Ins
section
variable {E:Env}
theorem als{n:Nat}{op:vJ}{tm:Tr V}{σ σ':St}{v:V}{K:V->St->Prop}(h:oQ (iU E n) op tm σ=some (v,σ'))(hk:K v σ'):wpOp E op tm σ K:=by
 unfold wpOp;split
 .next g args=>
  unfold oQ at h;simp only[vJ.kind]at h;split at h
  .next f a e=>
   unfold abe at e;cases hg:g.ev tm with
   |fn f' caps=>
    dsimp only at e
    rw[hg]at e
    obtain⟨rfl,rfl⟩:=Prod.mk.inj (eC e)
    exact⟨n,v,σ',h,hk⟩
   |_=>grind
  .cases h
 .next hne=>
  have e:oQ (λ_ _ _=>none) op tm σ=oQ (iU E n) op tm σ:=by
   unfold oQ;cases hk2:op.kind with
   |c=>cases op<;>simp only[vJ.kind,reduceCtorEq]at hk2;grind
   |_=>rfl
  grind
def agM{n:Nat}{o:AO}{tm:Tr V}{σ σ':St}{v:V}{K:V->St->Prop}(h:stepG (iU E n) o tm σ=some (v,σ'))(hk:K v σ'):wpG E o tm σ K:=by grind[wpG,stepG,als]
theorem WI{n:Nat}:∀{l:List AO}{tm tm':Tr V}{σ σ':St}{Q:Tr V->St->Prop},rZ (iU E n) l tm σ=some (tm',σ')->Q tm' σ'->wpOps E l tm σ Q
 |[],_,_,_,_,_,h,hq=>by cases h;exact hq
 |o::l,tm,tm',σ,σ',Q,h,hq=>by
  unfold rZ at h;split at h
  .next v σ1 e=>
   rw[KL]at h;exact agM e (WI h hq)
  .cases h
theorem agN{n:Nat}{pt:List (List Nat)}{dI bP:Tr V}:∀{d:Dr}{σ σ':St}{res:List Rs}{pd:List iO}{tm':Tr V}{Q:Tr V->St->Prop},BQ (iU E n) pt dI bP d σ res pd=some (tm',σ')->Q tm' σ'->Wq E pt dI bP d σ res pd Q
 |.fin qs,σ,σ',res,pd,tm',Q,h,hq=>by grind[Go.Proofs.Xe.BQ,Go.Proofs.Xe.Wq]
 |.act qs x r,σ,σ',res,pd,tm',Q,h,hq=>by
  unfold BQ at h;unfold Wq;split at h
  .next σ1 res1 pd1 e=>
   rw[e];dsimp only;cases hb:pd1.all (again σ1)with
   |false=>rw[hb]at h;cases h
   |true=>
    rw[hb]at h
    simp only[cC]at h
    refine⟨rfl,?_⟩
    split at h
    .next V6 e2=>
     rw[e2]
     dsimp only
     split at h
     .next v σ2 e3=>exact agM e3 (agN h hq)
     .cases h
    .cases h
  .cases h
end
section
variable (E:Env) (tm:Tr V) (σ:St) (Q:AX→Tr V→St→Prop)
def aqd(l:List AO):bI E (.ops l) tm σ Q=wpOps E l tm σ λtm' σ'=>Q .normal tm' σ':=by
 refine propext ⟨?_,akR⟩;rintro⟨n,e,tm',σ',h,hq⟩;cases n with
 |zero=>grind[exec]
 |succ n=>
  simp only[exec,VP]at h
  grind[WI]
def atV(d:Dr)(pt:List (List Nat))(ds:List Nat):bI E (.drawn d pt ds) tm σ Q=Wq E pt tm (Zw tm ds) d σ [] [] λtm' σ'=>Q .normal tm' σ':=by
 refine propext ⟨?_,aqc⟩;rintro⟨n,e,tm',σ',h,hq⟩;cases n with
 |zero=>grind[exec]
 |succ n=>
  simp only[exec,xDr,VP,Je]at h
  grind[agN]
def seq_eq(a b:AC):bI E (.seq a b) tm σ Q=bI E a tm σ (Tz E b Q):=by
 refine propext ⟨?_,run_seq⟩;rintro⟨n,e,tm',σ',h,hq⟩;cases n with
 |zero=>grind[exec]
 |succ n=>
  rw[exec]at h
  cases hx:exec E n a tm σ with
  |none=>rw[hx]at h;cases h
  |some q=>
   rw[hx]at h
   obtain⟨e1,Ja,σ1⟩:=q
   refine⟨n,e1,Ja,σ1,hx,?_⟩
   cases e1 with
   |normal=>exact⟨n,e,tm',σ',h,hq⟩
   |exit i=>cases h;exact hq
   |ret=>cases h;exact hq
def agO(i:Nat)(a:AC):bI E (.block i a) tm σ Q=bI E a tm σ (af9 i Q):=by
 refine propext ⟨?_,D7⟩;rintro⟨n,e,tm',σ',h,hq⟩;cases n with
 |zero=>grind[exec]
 |succ n=>
  rw[exec]at h
  cases hx:exec E n a tm σ with
  |none=>rw[hx]at h;cases h
  |some q=>
   rw[hx]at h
   obtain⟨e1,Ja,σ1⟩:=q
   refine⟨n,e1,Ja,σ1,hx,?_⟩
   cases e1 with
   |normal=>cases h;exact hq
   |exit j=>cases h;exact hq
   |ret=>cases h;exact hq
def alu:bI E .skip tm σ Q=Q .normal tm σ:=by
 refine propext ⟨?_,Wn⟩;rintro⟨n,e,tm',σ',h,hq⟩;cases n with
 |zero=>grind[exec]
 |succ n=>grind[exec]
def alv(i:Nat):bI E (.exit i) tm σ Q=Q (.exit i) tm σ:=by
 refine propext ⟨?_,af7⟩;rintro⟨n,e,tm',σ',h,hq⟩;cases n with
 |zero=>grind[exec]
 |succ n=>grind[exec]
def aqe:bI E .ret tm σ Q=Q .ret tm σ:=by
 refine propext ⟨?_,akP⟩;rintro⟨n,e,tm',σ',h,hq⟩;cases n with
 |zero=>grind[exec]
 |succ n=>grind[exec]
def ifV(v:V)(P:Bool->Prop):Prop:=match v with|.c (.bool t)=>P t|_=>False
def alx(x:O)(a b:AC):bI E (.cond x a b) tm σ Q=ifV (x.ev tm) λt=>bI E (bif t then a else b) tm σ Q:=by
 refine propext ⟨?_,λh=>?_⟩
 .rintro⟨n,e,tm',σ',h,hq⟩;cases n with
  |zero=>grind[exec]
  |succ n=>
   simp only[exec,abg]at h
   split at h
   .next t e=>rw[e];exact⟨n,_,_,_,h,hq⟩
   .cases h
 .unfold ifV at h;grind[af8]
def aqf(a b:AC):bI E (bif true then a else b) tm σ Q=bI E a tm σ Q:=rfl
def aqg(a b:AC):bI E (bif false then a else b) tm σ Q=bI E b tm σ Q:=rfl
def aly(a b:AC):bI E (bif !true then a else b) tm σ Q=bI E b tm σ Q:=rfl
def alz(a b:AC):bI E (bif !false then a else b) tm σ Q=bI E a tm σ Q:=rfl
def agP(n:Nat)(b:AC)(r:List (Nat×Option (Nat×Bool))):bI E (AF.body ⟨n,b,r⟩) tm σ Q=bI E b tm σ Q:=rfl
def agQ(P:Bool->Prop):ifV (.c (.bool true)) P=P true:=rfl
def adZ(P:Bool->Prop):ifV (.c (.bool false)) P=P false:=rfl
def alA(b:Bool)(P:Bool->Prop):ifV (.c (.bool (!b))) P=ifV (.c (.bool b)) λt=>P (!t):=rfl
def aH{p:Prop}[Decidable p]{P:Bool->Prop}(h1:p->P true)(h2:¬p->P false):ifV (.c (.bool (decide p))) P:=by
 show P (decide p);by_cases h:p
 .grind
 grind
def atW{b:Bool}{P:Bool->Prop}(h1:b=true->P true)(h2:b=false->P false):ifV (.c (.bool b)) P:=by
 show P b;cases b with
 |true=>grind
 |false=>grind
def tick:Prop:=∀n:Nat,n=n
def ad1:tick=True:=propext ⟨λ_=>trivial,λ_ _=>rfl⟩
@[congr] theorem asM {z:Prop} {v v' : V} {P:Bool→Prop} (hz:tick=z) (h:v=v'):ifV v P=ifV v' P:=by rw [h]
@[congr] theorem asO {z:Prop} {v v' : Option V} {P:V→Prop} (hz:tick=z) (h:v=v'):Gh v P=Gh v' P:=by rw [h]
@[congr] theorem aqh {z:Prop} {c:AC} {tm tm' : Tr V} {σ σ' : St} {Q:AX→Tr V→St→Prop} (hz:tick=z) (h:tm=tm') (h2:σ=σ'):bI E c tm σ Q=bI E c tm' σ' Q:=by rw [h,h2]
@[congr] theorem aoa {z:Prop} {c:List AO} {tm tm' : Tr V} {σ σ' : St} {Q:Tr V→St→Prop} (hz:tick=z) (h:tm=tm') (h2:σ=σ'):wpOps E c tm σ Q=wpOps E c tm' σ' Q:=by rw [h,h2]
@[congr] theorem asP {z:Prop} {c:AO} {tm tm' : Tr V} {σ σ' : St} {Q:V→St→Prop} (hz:tick=z) (h:tm=tm') (h2:σ=σ'):wpG E c tm σ Q=wpG E c tm' σ' Q:=by rw [h,h2]
@[congr] theorem aqi {z:Prop} {c:vJ} {tm tm' : Tr V} {σ σ' : St} {Q:V→St→Prop} (hz:tick=z) (h:tm=tm') (h2:σ=σ'):wpOp E c tm σ Q=wpOp E c tm' σ' Q:=by rw [h,h2]
@[congr] theorem aob {z:Prop} {f:Nat} {a a' : List V} {σ σ' : St} {Q:V→St→Prop} (hz:tick=z) (h:a=a') (h2:σ=σ'):aC E f a σ Q=aC E f a' σ' Q:=by rw [h,h2]
@[congr] theorem asQ {z:Prop} {dI bP:Tr V} {qs:List DO} {σ σ' : St} {res res' : List Rs} {pd pd' : List iO} {K:St→List Rs→List iO→Prop} (hz:tick=z) (h2:σ=σ') (h3:res=res') (h4:pd=pd'):uO dI bP qs σ res pd K=uO dI bP qs σ' res' pd' K:=by grind
@[congr] theorem asR {z:Prop} {pt:List (List Nat)} {dI bP:Tr V} {d:Dr} {σ σ' : St} {res res' : List Rs} {pd pd' : List iO} {K:Tr V→St→Prop} (hz:tick=z) (h2:σ=σ') (h3:res=res') (h4:pd=pd'):Wq E pt dI bP d σ res pd K=Wq E pt dI bP d σ' res' pd' K:=by grind
@[congr] theorem asT {z:Prop} {σ σ' : St} {pd pd' : List iO} (hz:tick=z) (h:σ=σ') (h2:pd=pd'):agn σ pd=agn σ' pd':=by rw [h,h2]
@[congr] theorem aqj {z:Prop} {i i' : Nat} {o:AO} {tm:Tr V} {v:V} {g:Bool} {nm:Option Nat} (hz:tick=z) (h:i=i'):iO.mk i o tm v g nm=iO.mk i' o tm v g nm:=by rw [h]
@[congr] theorem aoc {z:Prop} {σ σ' : St} {p:iO} (hz:tick=z) (h:σ=σ'):again σ p=again σ' p:=by rw [h]
@[congr] theorem asU {z:Prop} {dI bP:Tr V} {res:List Rs} {us us' os:List Nat} (hz:tick=z) (h:us=us'):MO dI bP res us os=MO dI bP res us' os:=by rw [h]
@[congr] theorem aqk {z:Prop} {bP:Tr V} {res:List Rs} {us us' : List Nat} (hz:tick=z) (h:us=us'):I4 bP res us=I4 bP res us':=by rw [h]
@[congr] theorem asV {z:Prop} {res:List Rs} {u u' : Nat} (hz:tick=z) (h:u=u'):fnd res u=fnd res u':=by rw [h]
@[congr] theorem aod {z:Prop} {dI tm:Tr V} {os os' : List Nat} (hz:tick=z) (h:os=os'):E8 dI tm os=E8 dI tm os':=by rw [h]
@[congr] theorem aql {z:Prop} {g:Option (Nat×Bool)} {tm:Tr V} {A B:Prop} (hz:tick=z):BA g tm A B=BA g tm A B:=rfl
@[congr] theorem asW {z:Prop} {v v' : V} {b:Bool} {A B:Prop} (hz:tick=z) (h:v=v'):gsV v b A B=gsV v' b A B:=by rw [h]
@[congr] theorem atX {z:Prop} {g:Option (Nat×Bool)} {dI bP:Tr V} {res:List Rs} {us os:List Nat} {σ:St} {pd:List iO} {i:Nat} {d:Option Nat} {op:vJ} {l:List DO} {K:St→List Rs→List iO→Prop} (hz:tick=z):qR g dI bP res us os σ pd i d op l K=qR g dI bP res us os σ pd i d op l K:=rfl
def alB(E:Env)(d:Option Nat)(g:Option (Nat×Bool))(op:vJ)(tm:Tr V)(σ:St)(K:V->St->Prop):wpG E ⟨d,g,op⟩ tm σ K=BA g tm (wpOp E op tm σ K) (K .tnil σ):=rfl
def aqm(x:O)(K:V->St->Prop):wpOp E (.mov x) tm σ K=Gh (some (x.ev tm)) λv=>K v σ:=rfl
def aqn(b:AC):Tz E b Q .normal tm σ=bI E b tm σ Q:=rfl
def aqo(b:AC)(i:Nat):Tz E b Q (.exit i) tm σ=Q (.exit i) tm σ:=rfl
def aqp(b:AC):Tz E b Q .ret tm σ=Q .ret tm σ:=rfl
def aqr(i:Nat):af9 i Q .normal tm σ=Q .normal tm σ:=rfl
def aqs(i j:Nat):af9 i Q (.exit j) tm σ=Q (bif Nat.beq j i then .normal else .exit j) tm σ:=rfl
def aqt(i:Nat):af9 i Q .ret tm σ=Q .ret tm σ:=rfl
variable (I:Nat→Tr V→St→Prop) (m:Nat) (res:List (Nat×Option (Nat×Bool))) (K:V→St→Prop)
def aqu:akQ I m Q .normal tm σ=∃m',m'<m/\I m' tm σ:=rfl
def aqv(i:Nat):akQ I m Q (.exit i) tm σ=Q (.exit i) tm σ:=rfl
def aqw:akQ I m Q .ret tm σ=Q .ret tm σ:=rfl
def alC:Zr res K .normal tm σ=Gh (result tm σ res) λv=>K v σ:=by unfold Zr Gh;grind
def aqx:Zr res K .ret tm σ=Gh (result tm σ res) λv=>K v σ:=by unfold Zr Gh;grind
end
def aqy(p q:Rat):decide (oL p q<0)=decide (p<q):=by
 by_cases h:p<q
 .rw[bp h,bp];exact qB.mpr h
 .rw[az h,az];exact λe=>h (qB.mp e)
def agR(tm:Tr V)(d:Nat)(v:V):Tr.get (Ey tm (some d) v) d=some v:=by grind[Ey,Tr.tN]
def aqz(tm:Tr V)(d j:Nat)(v:V)(h:j≠d):Tr.get (Ey tm (some d) v) j=Tr.get tm j:=by grind[Ey,Tr.tN]
def ZA(tm:Tr V)(σ:St):pz tm σ []=some .tnil:=rfl
def agS(tm:Tr V)(σ:St)(t:Nat)(r:List (Nat×Option (Nat×Bool))):pz tm σ ((t,none)::r)=match tm.get t,pz tm σ r with|some v,some w=>some (.aX v w)|_,_=>none:=rfl
def agT(tm:Tr V)(σ:St)(t n:Nat)(g:Bool)(r:List (Nat×Option (Nat×Bool))):pz tm σ ((t,some (n,g))::r)=match(match tm.ah t with|.c (.ptr b o)=>ld σ.h b o n g|_=>none),pz tm σ r with|some v,some w=>some (.aX v w)|_,_=>none:=rfl
def Fr.new1{σ:St}{h:Tr Bk}{n:Nat}{k:Bk}(hf:Fr σ ⟨h,n⟩):Fr σ ⟨hset h n k,n+1⟩:=Fr.new hf k
def Fr.set1{σ:St}{h:Tr Bk}{n b:Nat}{k:Bk}(hf:Fr σ ⟨h,n⟩)(h1:σ.aj<=b)(h2:b<n):Fr σ ⟨hset h b k,n⟩:=Fr.set hf h1 h2 k
def ak{h:Tr Bk}{b:Nat}{k:Bk}(e:h b=some k)(o n:Nat)(g:Bool):ld h b o n g=bif k.rd then zk k.cells o n g else none:=by unfold ld;rw[e]
def aJ{h:Tr Bk}{b:Nat}{k:Bk}(e:h b=some k)(o:Nat)(vs:List B):sto h b o vs=match bif k.pl then yj k.cells o vs else none with|some l=>some (hset h b ⟨l,k.opn⟩)|none=>none:=by grind[sto]
def plo(o:Option (Nat×Nat)):Bool:=match o with|some (0,_)=>false|_=>true
def YE(o:Option (Nat×Nat)):Bool:=match o with|some (0,t)=>Nat.beq t 1|_=>true
def aqA(k:Bk):k.pl=plo k.opn:=rfl
def NC(k:Bk):k.rd=YE k.opn:=rfl
def agU:plo none=true:=rfl
def agV:YE none=true:=rfl
def aoe(e t:Nat)(h:e≠0):plo (some (e,t))=true:=by cases e with|zero=>omega|succ e=>rfl
def Cm(e t:Nat)(h:e≠0):YE (some (e,t))=true:=by cases e with|zero=>omega|succ e=>rfl
def atY:YE (some (0,1))=true:=rfl
def agW(k:IntKind)(n:Int):B.kn (.int k n)=true:=rfl
theorem Aj(b:Bool):B.kn (.bool b)=true:=rfl
theorem FN(s:ByteArray):B.kn (.str s)=true:=rfl
def aqB(b o:Nat):B.kn (.ptr b o)=true:=rfl
def alD:B.kn .SQ=true:=rfl
def atZ(b o n:Nat)(c:Cap):B.kn (.sl b o n c)=true:=rfl
def alE:B.kn .aW=true:=rfl
def at1(b:Nat):B.kn (.mp b)=true:=rfl
def HL.kn{h:Tr Bk}{e:Nat}{v:B}{n:Nat}{G:Nat->List B}(hl:HL h e v n G):v.kn=true:=by rcases hl with⟨-,rfl⟩|⟨b,o,c,rfl,-⟩<;>rfl
def HC.kn{h:Tr Bk}{v:B}{n:Nat}{G:Nat->B}(hl:HC h v n G):v.kn=true:=by rcases hl with⟨-,rfl⟩|⟨b,o,c,rfl,-⟩<;>rfl
def at6(x:B)(l:List B)(o n:Nat):zk (x::l) o n true=bif Nat.beq (((x::l).drop o).take n).length n&&(((x::l).drop o).take n).all B.kn then some (.agg (((x::l).drop o).take n))else none:=rfl
def at7(x:B)(l:List B)(o n:Nat):zk (x::l) o n false=match(x::l).drop o with|x::_=>bif x.kn then some (.c x)else none|[]=>none:=rfl
def aua(x:B)(l vs:List B):yj (x::l) 0 vs=bif Nat.ble vs.length (x::l).length then some (vs++(x::l).drop vs.length)else none:=by rw[yj]
def aub(x:B)(l:List B)(o:Nat)(vs:List B):yj (x::l) (o+1) vs=match yj l o vs with|some r=>some (x::r)|none=>none:=by rfl
def agX(a b:Nat):(Int.ofNat a=Int.ofNat b)=(a=b):=propext ⟨Int.ofNat.inj,λe=>by rw[e]⟩
def eq_neg(a b:Nat):(Int.ofNat a=Int.negSucc b)=False:=by simp
def auc[h:Decidable True]: @decide True h=true:=by simp
def aud[h:Decidable False]: @decide False h=false:=by simp
attribute [go_sem] ad1 aly alz aqf aqg agP adQ wpOps_cons agl apv o_load akY akZ ak0 apw atB apx apy apz apC atC atD atE atF atG atH atI apD apE atJ atK atL ak1 ak2 apG atN atM atO ak3 BP apI Zb atP akX adP apJ ak4 atQ apL JU rep atS ak5 apO awE awF adG akV adH adI adJ adK adL adM adN V.cells akW atA agk apu aA awG awH cU et Bool.and_true Bool.true_and List.drop_succ_cons gC gb cK bO List.length_nil Nat.reduceAdd cT cE abo Nz vN Fe au dx List.nil_append gL List.map_cons List.map_nil result agj aG alc ald ak8 apY alg ali agy agA agC ap0 ap2 ap4 agE agG ap6 ap8 alj agI alm aqa agK alo alq adU ak9 ala apP agq adR ags ak6 agt adS Zx agu adT agp alb agv apZ alh agz agB agD ap1 ap3 ap5 agF agH ap7 ap9 alk agJ aln aqb agL alp alr Zz WH adW ale atT Zy adV List.contains_cons List.contains_nil Nat.reduceBEq Bool.or_false Bool.or_true Bool.false_or Bool.true_or cC fq List.getD_cons_zero List.getD_cons_succ am and_true alB apQ apS apU apV apW apX ak7 atU alf aqm aqd atV seq_eq agO alu alv aqe alx agQ adZ alA aqn aqo aqp aqr aqs aqt aqu aqv aqw alC aqx aqy agW Aj FN aqB alD atZ alE at1 at6 at7 aua aub agX eq_neg auc aud aqA NC agU agV aoe Cm atY agR aqz ZA agS agT atx Zu Zv agi adF aty atz apq agh atv apo agf adE WA apm Wx apn Wy adC atw akT abn apr WC aps apt akU WB
def bM:Nat->(Nat->List B)->List B
 |0,_=>[]
 |n+1,G=>G 0++bM n λi=>G (i+1)
def WJ{e:Nat}:∀{n:Nat}{G:Nat->List B}{i:Nat},(∀j,(G j).length=e)->i<n->∃r,(bM n G).drop (i*e)=G i++r
 |0,_,_,_,h=>jb
 |n+1,G,0,_,_=>⟨bM n λi=>G (i+1),by rw[il];rfl⟩
 |n+1,G,i+1,hG,h=>by obtain⟨r,hr⟩:=WJ (G:=λi=>G (i+1)) (i:=i) (λj=>hG (j+1)) (by omega:i<n);refine⟨r,?_⟩;show(G 0++bM n λi=>G (i+1)).drop _=_;rw[cw,fm,<-hG 0,List.drop_length_add_append,hG 0];exact hr
def yN{e n i k m:Nat}{G:Nat->List B}(g:Bool)(hG:∀j,(G j).length=e)(h:i<n)(hk:k+m<=e)(hm:0<m):zk (bM n G) (i*e+k) m g=zk (G i) k m g:=by
 obtain⟨r,hr⟩:=WJ hG h;have hd:(bM n G).drop (i*e+k)=(G i).drop k++r:=by rw[<-List.drop_drop,hr,List.drop_append_of_le_length kd]
 have hl:((G i).drop k).length=e-k:=by grind
 unfold zk;grind
def agY:∀(p:List B) (l:List B) (o:Nat) (vs:List B),yj (p++l) (p.length+o) vs=match yj l o vs with|some r=>some (p++r)|none=>none
 |[],l,o,vs=>by grind
 |x::p,l,o,vs=>by rw[gL,bO,show p.length+1+o=(p.length+o)+1 by omega,yj,agY p l o vs];cases yj l o vs<;>rfl
def abr:∀(p:List B) (l:List B) (o:Nat) (vs:List B),o+vs.length<=p.length->yj (p++l) o vs=match yj p o vs with|some r=>some (r++l)|none=>none
 |p,l,0,vs,h=>by grind[yj,vN]
 |[],l,o+1,vs,h=>by simp at h
 |x::p,l,o+1,vs,h=>by rw[gL,yj,yj,abr p l o vs (by simp only[bO]at h;omega)];cases yj p o vs<;>rfl
def jk(G:Nat->List B)(i:Nat)(r:List B):Nat->List B:=λj=>if j=i then r else G j
def Ak{e k:Nat}{vs:List B}:∀{n i:Nat}{G:Nat->List B},(∀j,(G j).length=e)->i<n->k+vs.length<=e->yj (bM n G) (i*e+k) vs=match yj (G i) k vs with|some r=>some (bM n (jk G i r))|none=>none
 |0,_,_,_,h,_=>jb
 |n+1,0,G,hG,_,hk=>by rw[il,cT];show yj (G 0++_) k vs=_;rw[abr _ _ _ _ kd];rfl
 |n+1,i+1,G,hG,h,hk=>by
  show yj (G 0++bM n λi=>G (i+1)) _ vs=_;rw[show(i+1)*e+k=(G 0).length+(i*e+k) by rw[hG,cw];omega,agY,Ak (λj=>hG (j+1)) jb hk];cases yj (G (i+1)) k vs with
  |none=>rfl
  |some r=>
   show some _=some _
   congr 1
   show G 0++_=jk G (i+1) r 0++_
   congr 2
   funext j
   unfold jk
   simp only[Nat.add_right_cancel_iff]
theorem bZ:∀{n:Nat}{G H:Nat->List B},(∀i,i<n->G i=H i)->bM n G=bM n H
 |0,_,_,_=>rfl
 |n+1,G,H,h=>by unfold bM;rw[h 0 jb,bZ λi hi=>h (i+1) jb]
def KN(z:List B):∀n,rep z n=bM n λ_=>z
 |0=>rfl
 |n+1=>by unfold rep bM;rw[KN z n]
theorem l7:∀(n:Nat) (G:Nat->List B) (r:List B),bM n G++r=bM (n+1) (jk G n r)
 |0,G,r=>by grind[bM,jk]
 |n+1,G,r=>by rw[bM,ie,l7 n _ r];show _=jk G (n+1) r 0++bM (n+1) _;congr 2;funext j;unfold jk;simp only[Nat.add_right_cancel_iff]
def qM{e:Nat}:∀{n:Nat}{G:Nat->List B},(∀j,(G j).length=e)->(bM n G).length=n*e
 |0,_,_=>by simp[bM]
 |n+1,G,h=>by rw[bM,aE,h,qM λj=>h (j+1),cw];omega
def yO{h:Tr Bk}{b o n:Nat}{cs:List B}(e:ld h b o n true=some (.agg cs))(k m:Nat)(g:Bool)(hk:k+m<=n)(hm:0<m):ld h b (o+k) m g=zk cs k m g:=by
 unfold ld at e⊢;cases hb:h b with
 |none=>grind
 |some bk=>
  rw[hb]at e
  dsimp only at e⊢
  cases hr:bk.rd with
  |false=>grind
  |true=>
   rw[hr]at e
   simp only[cC]at e⊢
   unfold zk at e
   dsimp only at e
   cases hx:(Nat.beq ((bk.cells.drop o).take n).length n&&((bk.cells.drop o).take n).all B.kn)with
   |false=>grind
   |true=>
    rw[hx]at e
    cases e
    rw[af]at hx
    have hl:=aw hx.1
    rw[dj]at hl
    unfold zk
    cases g with
    |true=>
     grind[List.drop_take,List.drop_drop]
    |false=>
     dsimp only
     rw[List.drop_take,List.drop_drop]
     have hd:n-k=(n-k-1)+1:=jb
     grind
def Am{h:Tr Bk}{b o n:Nat}{cs:List B}(e:ld h b o n true=some (.agg cs))(m:Nat)(g:Bool)(hk:m<=n)(hm:0<m):ld h b o m g=zk cs 0 m g:=yO e 0 m g jb hm
def gJ(q:Rat):List B:=[.bool (rn q),.str (rs q),.str (rd q)]
def bU(n:Nat)(f:Nat->Rat):List B:=bM n λi=>gJ (f i)
def aN{α:Type}(f:Nat->α)(i:Nat)(q:α):Nat->α:=λj=>if j=i then q else f j
def TF(n:Nat)(f:Nat->Rat)(i:Nat)(h:i<n):zk (bU n f) (i*3) 3 true=some (.agg [.bool (rn (f i)),.str (rs (f i)),.str (rd (f i))]):=by unfold bU;have:=yN (e:=3) (k:=0) (m:=3) (G:=λi=>gJ (f i)) true (λ_=>rfl) h jj jj;rw[cE]at this;rw[this];rfl
def alF(n:Nat)(f:Nat->Rat)(i:Nat)(q:Rat)(h:i<n):yj (bU n f) (i*3) [.bool (rn q),.str (rs q),.str (rd q)]=some (bU n (aN f i q)):=by unfold bU;have:=Ak (e:=3) (k:=0) (vs:=gJ q) (G:=λi=>gJ (f i)) (λ_=>rfl) h (cL 3);rw[cE]at this;show yj _ _ (gJ q)=_;rw[this];show some _=some _;congr 2;funext j;unfold jk aN;split<;>rfl
theorem dw{n:Nat}{f g:Nat->Rat}(h:∀i,i<n->f i=g i):bU n f=bU n g:=bZ λi hi=>by grind
def agZ(n:Nat):rep [.bool (rn 0),.str (rs 0),.str (rd 0)] n=bU n λ_=>0:=KN _ n
def ad2(n:Nat)(f:Nat->Rat)(q:Rat):bU n f++[.bool (rn q),.str (rs q),.str (rd q)]=bU (n+1) (aN f n q):=by unfold bU;rw[show [B.bool (rn q),.str (rs q),.str (rd q)]=gJ q from rfl,l7];congr 1;grind[jk,aN]
theorem ND(n:Nat)(f:Nat->Rat):(bU n f).length=n*3:=qM λ_=>rfl
def ones(n:Nat)(g:Nat->B):List B:=bM n λi=>[g i]
def abt(n:Nat)(g:Nat->B)(i:Nat)(h:i<n):zk (ones n g) (i*1) 1 false=bif (g i).kn then some (.c (g i))else none:=by unfold ones;have:=yN (e:=1) (k:=0) (m:=1) (G:=λi=>[g i]) false (λ_=>rfl) h jj jj;rw[cE]at this;rw[this];rfl
def alG(n:Nat)(g:Nat->B)(i:Nat)(x:B)(h:i<n):yj (ones n g) (i*1) [x]=some (ones n (aN g i x)):=by unfold ones;have:=Ak (e:=1) (k:=0) (vs:=[x]) (G:=λi=>[g i]) (λ_=>rfl) h (cL 1);rw[cE]at this;rw[this];show some _=some _;congr 2;grind[jk,aN]
def dR{n:Nat}{f g:Nat->B}(h:∀i,i<n->f i=g i):ones n f=ones n g:=bZ λi hi=>by grind
def ag0(x:B)(n:Nat):rep [x] n=ones n λ_=>x:=KN _ n
theorem NG(n:Nat)(g:Nat->B):(ones n g).length=n*1:=qM λ_=>rfl
theorem aP{α:Type}(f:Nat->α)(i:Nat)(q:α):aN f i q i=q:=ab rfl
theorem aQ{α:Type}(f:Nat->α)(i j:Nat)(q:α)(h:j≠i):aN f i q j=f j:=ae h
def TG:Option V->Nat->Option Nat
 |none,d=>some d
 |some v,_=>JU v
def ag1(b:Option O)(tm:Tr V)(d:Nat):VN b tm d=TG (b.map (·.ev tm)) d:=by cases b<;>rfl
def TJ(gB:Nat)(x:V)(lo hi mx:Option V):Option V:=
 match x with
 |.c (.sl b o n c)=>
  match TG lo 0,TG hi n with
  |some l,some h=>bif Nat.ble l h&&Nat.ble h n then
    match mx with
    |none=>(match c with
     |.ex k=>bif Nat.blt l k then some (.c (.sl b (o+l*gB) (h-l) (.ex (k-l))))else some (.c (.sl b o 0 .any))
     |.opn=>bif Nat.beq l 0 then some (.c (.sl b o h .opn))else bif Nat.blt l n then some (.c (.sl b (o+l*gB) (h-l) .any))else some (.c (.sl b o 0 .any))
     |.any=>bif Nat.blt l n then some (.c (.sl b (o+l*gB) (h-l) .any))else some (.c (.sl b o 0 .any)))
    |some y=>match JU y with
     |some q=>bif Nat.ble h q&&Nat.ble q n then bif Nat.beq l 0 then some (.c (.sl b o h (bif Nat.beq n 0 then .any else .ex q)))else none else none
     |none=>none
   else none
  |_,_=>none
 |.c .aW=>match TG lo 0,TG hi 0 with
  |some 0,some 0=>(match mx with|none=>some (.c .aW)|some y=>match JU y with|some 0=>some (.c .aW)|_=>none)
  |_,_=>none
 |_=>none
def WL(gB:Nat)(x:O)(lo hi mx:Option O)(tm:Tr V):MJ gB x lo hi mx tm=TJ gB (x.ev tm) (lo.map (·.ev tm)) (hi.map (·.ev tm)) (mx.map (·.ev tm)):=by unfold MJ TJ;simp only[qE,ag1];cases mx<;>rfl
def alH(E:Env)(tm:Tr V)(σ:St)(K:V->St->Prop)(gB:Nat)(x:O)(lo hi mx:Option O):wpOp E (.slice gB x lo hi mx) tm σ K=Gh (TJ gB (x.ev tm) (lo.map (·.ev tm)) (hi.map (·.ev tm)) (mx.map (·.ev tm))) λv=>K v σ:=by rw[iy _ _ _ _ (by rfl) λ_ _ h=>by cases h];show Gh (MJ gB x lo hi mx tm) _=_;rw[WL]
def alI:B->Prop
 |.sl _ _ n (.ex k)=>n<=k
 |_=>True
def aqC{v:B}{n h:Nat}(hc:alI v)(hv:(n=0/\v=.aW)\/∃b o c,v=.sl b o n c/\0<n)(hh:h<=n)(gB:Nat):∃v',TJ gB (.c v) none (some (.c (.int .i64 (.ofNat h)))) none=some (.c v')/\alI v'/\((n=0/\v'=.aW)\/∃b o c c',v=.sl b o n c/\v'=.sl b o h c'):=by
 rcases hv with⟨rfl,rfl⟩|⟨b,o,c,rfl,hn⟩
 .have:h=0:=jb;subst this;exact⟨.aW,rfl,trivial,.inl ⟨rfl,rfl⟩⟩
 .cases c with
  |ex k=>
   have hc:n<=k:=hc
   refine⟨.sl b o h (.ex k),?_,by show h<=k;omega,.inr ⟨b,o,_,_,rfl,rfl⟩⟩
   grind[TJ,TG,JU,vN,Fe]
  |opn=>
   refine⟨.sl b o h .opn,?_,trivial,.inr ⟨b,o,_,_,rfl,rfl⟩⟩
   grind[TJ,TG,JU,vN,abo]
  |any=>
   refine⟨.sl b o h .any,?_,trivial,.inr ⟨b,o,_,_,rfl,rfl⟩⟩
   grind[TJ,TG,JU,vN,Fe]
attribute [go_sem] alH Option.map_some Option.map_none
attribute [go_sem] TF alF agZ abt alG ag0
structure aU(ex:List Nat)(σ σ':St):Prop where
 le:σ.aj<=σ'.aj
 wf:WF σ'
 old:∀b,b<σ.aj->¬b∈ex->σ'.h b=σ.h b
def Fr.ex{σ σ':St}(h:Fr σ σ')(ex:List Nat):aU ex σ σ':=⟨h.le,h.wf,λb hb _=>h.old b hb⟩
theorem aU.refl{σ:St}{ex:List Nat}(h:WF σ):aU ex σ σ:=(Fr.refl h).ex ex
def aU.trans{ex:List Nat}{σ σ' Na:St}(h:aU ex σ σ')(h':aU ex σ' Na):aU ex σ Na:=⟨ap h.le h'.le,h'.wf,λb hb hx=>(h'.old b (aD hb h.le) hx).trans (h.old b hb hx)⟩
def aU.to{ex:List Nat}{σ0 σ σ':St}(h:Fr σ0 σ)(he:aU ex σ σ')(hx:∀b∈ex,σ0.aj<=b):Fr σ0 σ':=⟨ap h.le he.le,he.wf,λb hb=>(he.old b (aD hb h.le) λhm=>by grind).trans (h.old b hb)⟩
def aU.to'{ex ex':List Nat}{σ0 σ σ':St}(h:aU ex' σ0 σ)(he:aU ex σ σ')(hx:∀b∈ex,σ0.aj<=b\/b∈ex'):aU ex' σ0 σ':=⟨ap h.le he.le,he.wf,λb hb hn=>(he.old b (aD hb h.le) λhm=>by grind).trans (h.old b hb hn)⟩
def aU.new1{ex:List Nat}{σ:St}{h:Tr Bk}{n:Nat}{k:Bk}(hf:aU ex σ ⟨h,n⟩):aU ex σ ⟨hset h n k,n+1⟩:=
 ⟨Nat.le_succ_of_le hf.le,λb hb=>by
  have hb:n+1<=b:=hb;show hset h n k b=none;rw[au _ _ _ _ jb];exact hf.wf b (show n<=b by omega),λb hb hx=>by
  show hset h n k b=_;have:σ.aj<=n:=hf.le;rw[au _ _ _ _ jb];exact hf.old b hb hx⟩
def aU.set1{ex:List Nat}{σ:St}{h:Tr Bk}{n b:Nat}{k:Bk}(hf:aU ex σ ⟨h,n⟩)(hb:σ.aj<=b\/b∈ex)(hb2:b<n):aU ex σ ⟨hset h b k,n⟩:=
 ⟨hf.le,λj hj=>by
  have hj:n<=j:=hj;show hset h b k j=none;rw[au _ _ _ _ jb];exact hf.wf j hj,λj hj hx=>by
  show hset h b k j=_;rw[au _ _ _ _ (λe=>by grind)];exact hf.old j hj hx⟩
theorem aU.ld{ex:List Nat}{σ σ':St}(h:WF σ)(hf:aU ex σ σ'){b o n:Nat}{g:Bool}{v:V}(hx:¬b∈ex)(hb:Xe.ld σ.h b o n g=some v):Xe.ld σ'.h b o n g=some v:=by have hlt:=h.cO hb;unfold Xe.ld at hb⊢;rw[hf.old b hlt hx];exact hb
def aU.get{ex:List Nat}{σ σ':St}(h:WF σ)(hf:aU ex σ σ'){b:Nat}{k:Bk}(hx:¬b∈ex)(hb:σ.h b=some k):σ'.h b=some k:=by rw[hf.old b (h.lt hb) hx];exact hb
def uK:Nat:=1000
def dK:Nat:=29000000
def eK:Nat:=29002000
def Zk(D k:Nat)(q:Rat):Prop:=∃a:Int,q=(a:Rat)/(D:Rat)/\a.natAbs<=k*(D*256^uK)
def Ap(D:Nat):Prop:=0<D/\D<256^dK
def alJ{D k u d s a:Nat}(hD:D<256^d)(hk:k<=256^u)(hs:u+d+u<=s)(ha:a<=k*(D*256^u)):a<256^s:=by have h1:(256:Nat)^(u+d+u)<=256^s:=bh jj hs;refine cP ha (aD ?_ h1);rw[dE,dE,fY];exact cP (bz _ hk) (Nat.mul_lt_mul_of_pos_left (eM hD (dp jj)) (dp jj))
def Sm.int{k:Nat}{a:Int}(hk:k≠0)(h:a.natAbs<256^k):Sm k (a:Rat):=⟨by show(a:Rat).num.natAbs<_;simp_all,by simp_all⟩
section
variable {D k l:Nat} {p q:Rat}
def Ap.ne(h:Ap D):(D:Rat)≠0:=by have:=h.1;intro e;simp_all
def Zk.int{a:Int}(hD:Ap D)(hk:k<=256^uK)(h:a.natAbs<=k*(D*256^uK)):Sm eK (a:Rat):=Sm.int jj (alJ hD.2 hk jj h)
def Zk.sz(h:Zk D k q)(hD:Ap D)(hk:k<=256^uK):Sz q:=by obtain⟨a,rfl,h2⟩:=h;have h3:Sm dK ((D:Int):Rat):=Sm.int jj hD.2;exact((Zk.int hD hk h2).div h3 hD.ne).mono jj
def Zk.aue(h:Zk D k p)(h':Zk D l q)(hD:Ap D)(hk:k<=256^uK)(hl:l<=256^uK)(h0:q≠0):Sz (p/q):=by
 obtain⟨a,rfl,h2⟩:=h;obtain⟨b,rfl,h3⟩:=h';have hb:(b:Rat)≠0:=λe=>h0 kd;have e:(a:Rat)/(D:Rat)/((b:Rat)/(D:Rat))=(a:Rat)/(b:Rat):=by grind
 rw[e];exact((Zk.int hD hk h2).div (Zk.int hD hl h3) hb).mono jj
def Zk.mono(h:Zk D k q)(hkl:k<=l):Zk D l q:=by obtain⟨a,e,h2⟩:=h;exact⟨a,e,ap h2 (bz _ hkl)⟩
theorem Zk.add(h:Zk D k p)(h':Zk D l q):Zk D (k+l) (p+q):=by
 obtain⟨a,rfl,h2⟩:=h;obtain⟨b,rfl,h3⟩:=h';refine⟨a+b,?_,?_⟩
 .rw[Rat.intCast_add];grind
 .rw[hJ];omega
def Zk.neg(h:Zk D k p):Zk D k (-p):=by obtain⟨a,rfl,h2⟩:=h;refine⟨-a,?_,jb⟩;grind
def Zk.sub(h:Zk D k p)(h':Zk D l q):Zk D (k+l) (p-q):=by rw[iS];exact h.add h'.neg
theorem Zk.zero:Zk D k 0:=⟨0,by grind,by simp⟩
def Zk.den{m:Nat}(hm:0<m)(h:Zk D k p):Zk (D*m) k p:=by
 obtain⟨a,rfl,h2⟩:=h;refine⟨a*m,?_,?_⟩
 .have:(m:Rat)≠0:=λe=>by simp_all
  have e2:((a*(m:Int):Int):Rat)=(a:Rat)*(m:Rat):=by rw[cW];rfl
  grind
 .rw[ff,gi];calc a.natAbs*m<=k*(D*256^uK)*m:=bz _ h2
   _=k*(D*m*256^uK):=by grind
end
def hdel(h:Tr Bk)(b:Nat):Tr Bk:=h.set b none
theorem TK(h:Tr Bk)(b j:Nat):hdel h b j=if j=b then none else h j:=Tr.tN h b none j
theorem iC(h:Tr Bk)(b j:Nat)(e:j≠b):hdel h b j=h j:=by grind[TK]
def aqD(h:Tr Bk)(b j o n:Nat)(g:Bool)(e:j≠b):ld (hdel h b) j o n g=ld h j o n g:=by grind[ld,iC]
def alK(o:Option (V×St))(K:V->St->Prop):Prop:=match o with|some (v,σ)=>K v σ|none=>False
@[congr] theorem aqE {o o' : Option (V×St)} {K:V→St→Prop} (h:o=o'):alK o K=alK o' K:=by rw [h]
def ad3(v:V)(σ:St)(K:V->St->Prop):alK (some (v,σ)) K=K v σ:=rfl
def ag2(ty gB bytes:Nat)(s x:V)(σ:St):Option (V×St):=
 match x with
 |.c .aW=>qF ty gB bytes s 0 [] σ
 |.c (.sl b o m _)=>bif Nat.beq m 0 then qF ty gB bytes s 0 [] σ else match σ.h b with
  |some k=>bif k.rd&&(Nat.beq ((k.cells.drop o).take (m*gB)).length (m*gB)&&((k.cells.drop o).take (m*gB)).all B.kn)then qF ty gB bytes s m ((k.cells.drop o).take (m*gB)) σ else none
  |none=>none
 |_=>none
def auf(E:Env)(tm:Tr V)(σ:St)(K:V->St->Prop)(ty gB bytes:Nat)(s x:O):wpOp E (.app ty gB bytes s x) tm σ K=alK (ag2 ty gB bytes (s.ev tm) (x.ev tm) σ) K:=by rfl
def ad4(ty gB bytes:Nat)(s:V)(σ:St):ag2 ty gB bytes s (.c .aW) σ=qF ty gB bytes s 0 [] σ:=rfl
def ag3(ty gB bytes:Nat)(s:V)(b o:Nat)(c:Cap)(σ:St):ag2 ty gB bytes s (.c (.sl b o 0 c)) σ=qF ty gB bytes s 0 [] σ:=rfl
def alL(ty gB bytes:Nat)(s:V)(b o m:Nat)(c:Cap)(σ:St)(hm:0<m):ag2 ty gB bytes s (.c (.sl b o m c)) σ=match σ.h b with
  |some k=>bif k.rd&&(Nat.beq ((k.cells.drop o).take (m*gB)).length (m*gB)&&((k.cells.drop o).take (m*gB)).all B.kn)then qF ty gB bytes s m ((k.cells.drop o).take (m*gB)) σ else none
  |none=>none:=by
 grind[ag2,Nz]
variable {ty gB bytes n m:Nat} {news:List B} {h:Tr Bk} {nx b:Nat}
def QF(h1:0<m)(h2:0<gB)(h3:m*bytes<=140737488355328)(h4:m<=1073741824):qF ty gB bytes (.c .aW) m news ⟨h,nx⟩=some (.c (.sl nx 0 m .opn),⟨hset h nx ⟨news,some (gB,ty)⟩,nx+1⟩):=by grind[qF,Nz,Fe,vN,jM]
def apK(ty gB bytes n m:Nat)(news:List B)(b:Nat)(h:Tr Bk)(nx:Nat)(k:Option Bk):Option (V×St):=match k with
 |some ⟨cells,some (e,t)⟩=>bif Nat.blt 0 e&&Nat.beq 0 0&&(Nat.beq e gB&&(Nat.beq t ty&&(Nat.ble ((n+m)*bytes) 140737488355328&&(Nat.ble (n+m) 1073741824&&Nat.ble (n*gB) cells.length))))then
   some (.c (.sl nx 0 (n+m) .opn),⟨hset (hdel h b) nx ⟨cells.take (n*gB)++news,some (gB,ty)⟩,nx+1⟩)else none
 |_=>none
def ag4(h1:0<m):qF ty gB bytes (.c (.sl b 0 n .opn)) m news ⟨h,nx⟩=apK ty gB bytes n m news b h nx (h b):=by
 unfold qF apK;dsimp only;rw[Nz (by omega:m≠0)];simp only[fq];split
 .next cells e t hk=>
  rw[hk];dsimp only;cases(Nat.blt 0 e&&Nat.beq 0 0&&(Nat.beq e gB&&(Nat.beq t ty&&(Nat.ble ((n+m)*bytes) 140737488355328&&(Nat.ble (n+m) 1073741824&&Nat.ble (n*gB) cells.length)))))with
  |false=>rfl
  |true=>
   simp only[cC,Tr.put,jM,qE]
   rfl
 simp
def WM{cells:List B}(h2:0<gB)(h3:(n+m)*bytes<=140737488355328)(h4:n+m<=1073741824)(h5:n*gB<=cells.length):apK ty gB bytes n m news b h nx (some ⟨cells,some (gB,ty)⟩)=some (.c (.sl nx 0 (n+m) .opn),⟨hset (hdel h b) nx ⟨cells.take (n*gB)++news,some (gB,ty)⟩,nx+1⟩):=by simp_all[apK,Fe,vN]
def ad5(b o n:Nat)(σ:St):qF ty gB bytes (.c (.sl b o n (.ex n))) 0 news σ=some (.c (.sl b o n (.ex n)),σ):=by simp_all[qF,vN]
def ag5(b o n:Nat)(σ:St):qF ty gB bytes (.c (.sl b o n .any)) 0 news σ=some (.c (.sl b o n .any),σ):=rfl
def ZB(σ:St)(h1:0<m)(h2:0<gB)(h3:m*bytes<=140737488355328)(h4:m<=1073741824):qF ty gB bytes (.c .aW) m news σ=some (.c (.sl σ.aj 0 m .opn),⟨hset σ.h σ.aj ⟨news,some (gB,ty)⟩,σ.aj+1⟩):=QF h1 h2 h3 h4
def ZC(σ:St):qF ty gB bytes (.c .aW) 0 news σ=some (.c .aW,σ):=rfl
def QG(σ:St)(h1:0<m):qF ty gB bytes (.c (.sl b 0 n .opn)) m news σ=apK ty gB bytes n m news b σ.h σ.aj (σ.h b):=ag4 h1
def ZE{σ:St}(hb:σ.h b=some ⟨[],none⟩)(h1:0<m)(h2:0<gB)(h3:m*bytes<=140737488355328)(h4:m<=1073741824):qF ty gB bytes (.c (.sl b 0 0 (.ex 0))) m news σ=some (.c (.sl σ.aj 0 m .opn),⟨hset σ.h σ.aj ⟨news,some (gB,ty)⟩,σ.aj+1⟩):=by unfold qF;dsimp only;rw[Nz (by omega:m≠0),hb];simp only[fq,Bk.rd,il,cK,et,Fe h2,cT,Fe h1,vN h3,vN h4,List.length_nil,ec,cC,jM,qE,gC,List.nil_append,Bool.true_and,cE];rfl
def Fr.nM{σ:St}{h:Tr Bk}{n b:Nat}(hf:Fr σ ⟨h,n⟩)(h1:σ.aj<=b):Fr σ ⟨hdel h b,n⟩:=
 ⟨hf.le,λj hj=>by
  show hdel h b j=none;rw[TK];split
  .rfl
  .exact hf.wf j hj,λj hj=>by
  show hdel h b j=_;rw[iC _ _ _ jb];exact hf.old j hj⟩
def aU.nM{ex:List Nat}{σ:St}{h:Tr Bk}{n b:Nat}(hf:aU ex σ ⟨h,n⟩)(h1:σ.aj<=b\/b∈ex):aU ex σ ⟨hdel h b,n⟩:=
 ⟨hf.le,λj hj=>by
  show hdel h b j=none;rw[TK];split
  .rfl
  .exact hf.wf j hj,λj hj hx=>by
  show hdel h b j=_;rw[iC _ _ _ (λe=>by grind)];exact hf.old j hj hx⟩
def aT:Nat->Nat->B
 |0,_=>.aW
 |n+1,b=>.sl b 0 (n+1) .opn
def kH:Nat->Tr Bk->Nat->Tr Bk
 |0,h,_=>h
 |_+1,h,b=>hdel h b
def xX:Nat->Tr Bk->Nat->Option Bk
 |0,_,_=>none
 |_+1,h,b=>h b
def gF(n:Nat)(G:Nat->List B)(e ty:Nat):Option Bk:=match n with
 |0=>none
 |n+1=>some ⟨bM (n+1) G,some (e,ty)⟩
def LG(G:Nat->List B)(e:Nat):Prop:=∀j,(G j).length=e
def apF(ty gB bytes n m:Nat)(news:List B)(b:Nat)(h:Tr Bk)(nx:Nat)(k:Option Bk):Option (V×St):=match n with
 |0=>qF ty gB bytes (.c .aW) m news ⟨h,nx⟩
 |n+1=>apK ty gB bytes (n+1) m news b h nx k
theorem KO(n b:Nat):(aT n b).kn=true:=by cases n<;>rfl
def WO(n b:Nat):lenV (.c (aT n b))=some (.c (.int .i64 (.ofNat n))):=by cases n<;>rfl
theorem fU(n:Nat)(h:Tr Bk)(b j:Nat)(e:n=0\/j≠b):kH n h b j=h j:=by
 cases n with
 |zero=>rfl
 |succ n=>exact iC _ _ _ jb
def alM(k:Nat)(h:Tr Bk)(b j o n:Nat)(g:Bool)(e:k=0\/j≠b):ld (kH k h b) j o n g=ld h j o n g:=by grind[ld,fU]
theorem vW{n:Nat}{h h':Tr Bk}{b:Nat}(e:n=0\/h' b=h b):xX n h' b=xX n h b:=by
 cases n with
 |zero=>rfl
 |succ n=>exact e.resolve_left jb
def ag6(n:Nat)(h:Tr Bk)(j b:Nat)(k:Bk)(e:n=0\/b≠j):xX n (hset h j k) b=xX n h b:=vW (by grind[au])
def ag7(σ:St)(h1:0<m):qF ty gB bytes (.c (aT n b)) m news σ=apF ty gB bytes n m news b σ.h σ.aj (xX n σ.h b):=by
 cases n with
 |zero=>rfl
 |succ n=>exact QG σ h1
def aqF{G:Nat->List B}(h1:0<m)(h2:0<gB)(h3:(n+m)*bytes<=140737488355328)(h4:n+m<=1073741824)(hG:LG G gB):apF ty gB bytes n m news b h nx (gF n G gB ty)=some (.c (.sl nx 0 (n+m) .opn),⟨hset (kH n h b) nx ⟨bM n G++news,some (gB,ty)⟩,nx+1⟩):=by
 cases n with
 |zero=>
  rw[cT]at h3 h4⊢
  exact QF h1 h2 h3 h4
 |succ n=>
  show apK ty gB bytes (n+1) m news b h nx (some ⟨bM (n+1) G,some (gB,ty)⟩)=_
  rw[WM h2 h3 h4 (by rw[qM hG];omega),<-qM (n:=n+1) hG,cA]
  rfl
def Fr.kH{σ:St}{h:Tr Bk}{n b k:Nat}(hf:Fr σ ⟨h,n⟩)(h1:k=0\/σ.aj<=b):Fr σ ⟨Xe.kH k h b,n⟩:=by
 cases k with
 |zero=>exact hf
 |succ k=>exact Fr.nM hf jb
def aU.kH{ex:List Nat}{σ:St}{h:Tr Bk}{n b k:Nat}(hf:aU ex σ ⟨h,n⟩)(h1:σ.aj<=b\/b∈ex):aU ex σ ⟨Xe.kH k h b,n⟩:=by
 cases k with
 |zero=>exact hf
 |succ k=>exact aU.nM hf h1
attribute [go_sem] KO WO fU alM ag6 ag7 aqF
def Fr.up{σ σ':St}{n:Nat}(hf:Fr σ σ')(hn:σ'.aj<=n):Fr σ ⟨σ'.h,n⟩:=⟨ap hf.le hn,λb hb=>hf.wf b (ap hn hb),hf.old⟩
def Fr.oC{σ:St}{h:Tr Bk}{n n':Nat}{k:Bk}(hf:Fr σ ⟨h,n⟩)(hn:n<n'):Fr σ ⟨hset h n k,n'⟩:=Fr.up (Fr.new1 hf) hn
theorem fr{σ σ':St}(h:Fr σ σ':=by repeat(first|assumption|exact Fr.refl (by assumption)|exact Fr.up (by assumption) kf|exact Fr.up (Fr.refl (by assumption)) kf|refine Fr.set1 ?_ kf kf|refine Fr.kH ?_ kf|refine Fr.nM ?_ kf|refine Fr.oC ?_ kf)):Fr σ σ':=h
def aU.up{ex:List Nat}{σ σ':St}{n:Nat}(hf:aU ex σ σ')(hn:σ'.aj<=n):aU ex σ ⟨σ'.h,n⟩:=⟨ap hf.le hn,λb hb=>hf.wf b (ap hn hb),hf.old⟩
def aU.oC{ex:List Nat}{σ:St}{h:Tr Bk}{n n':Nat}{k:Bk}(hf:aU ex σ ⟨h,n⟩)(hn:n<n'):aU ex σ ⟨hset h n k,n'⟩:=aU.up (aU.new1 hf) hn
def aC.st{E:Env}{f:Nat}{args:List V}{σ:St}{K:V->St->Prop}(P:St->Prop)(h:P σ)(h2:P σ->aC E f args σ K):aC E f args σ K:=h2 h
def bI.st{E:Env}{c:AC}{tm:Tr V}{σ:St}{Q:AX->Tr V->St->Prop}(P:St->Prop)(h:P σ)(h2:P σ->bI E c tm σ Q):bI E c tm σ Q:=h2 h
theorem QH{e:Nat}{l:List B}:∀{n:Nat}{o:Nat}{G:Nat->List B},(∀i,i<n->zk l (o+i*e) e true=some (.agg (G i)))->(l.drop o).take (n*e)=bM n G/\(bM n G).length=n*e/\(bM n G).all B.kn=true
 |0,o,G,_=>by rw[il,cK];exact⟨rfl,rfl,rfl⟩
 |n+1,o,G,h=>by
  have h0:=h 0 jb;rw[il,cE]at h0;unfold zk at h0;dsimp only at h0;cases hx:(Nat.beq ((l.drop o).take e).length e&&((l.drop o).take e).all B.kn)with
  |false=>grind
  |true=>
   rw[hx]at h0
   have e0:(l.drop o).take e=G 0:=by grind
   rw[af]at hx
   have hl:=aw hx.1
   obtain⟨h1,h2,h3⟩:=QH (o:=o+e) (n:=n) (G:=λi=>G (i+1)) λi hi=>by have:=h (i+1) jb;rw[cw,fm (i*e),<-Nat.add_assoc]at this;exact this
   refine⟨?_,?_,?_⟩
   .unfold bM
    rw[<-e0,<-h1,<-List.drop_drop,cw,fm (n*e),List.take_add]
   .unfold bM
    rw[aE,h2,<-e0,hl,cw,fm]
   .unfold bM
    rw[List.all_append,h3,<-e0,hx.2];rfl
def QI{h:Tr Bk}{e b o n:Nat}{G:Nat->List B}(hn:0<n)(hl:∀i,i<n->ld h b (o+i*e) e true=some (.agg (G i))):∃k,h b=some k/\k.rd=true/\(k.cells.drop o).take (n*e)=bM n G/\(bM n G).length=n*e/\(bM n G).all B.kn=true:=by grind[Go.Proofs.Xe.ld,Go.Proofs.Xe.QH]
def ad6(n:Nat)(f:Nat->Rat):(bU n f).take (n*3)=bU n f:=by grind[ND]
def ad7(n:Nat)(g:Nat->B):(ones n g).take (n*1)=ones n g:=by grind[NG]
def ag8(n:Nat)(f:Nat->Rat):n*3<=(bU n f).length:=by grind[ND]
def alN(h1:0<m)(h2:0<gB)(h3:m*bytes<=140737488355328)(h4:m<=1073741824):qF ty gB bytes (.c (.sl b 0 0 (.ex 0))) m news ⟨hset h b ⟨[],none⟩,nx⟩=some (.c (.sl nx 0 m .opn),⟨hset (hset h b ⟨[],none⟩) nx ⟨news,some (gB,ty)⟩,nx+1⟩):=ZE (aA _ _ _) h1 h2 h3 h4
def ZF:∀{n:Nat}{G:Nat->List B},(∀j,(G j).all B.kn=true)->(bM n G).all B.kn=true
 |0,_,_=>rfl
 |n+1,G,h=>by unfold bM;rw[List.all_append,h 0,ZF λj=>h (j+1)];rfl
def alO(n:Nat)(f:Nat->Rat):(bU n f).all B.kn=true:=ZF λ_=>rfl
def aug:((Int.ofNat 1:Int):Rat)=1:=rfl
def auh:((Int.ofNat 0:Int):Rat)=0:=rfl
attribute [go_sem] alN alO Bool.not_true Bool.not_false aug auh iC aqD ad3 auf ad4 alL ag3 ag5 ZB ZC QG WM ad5 ad6 ad7 ND NG ad2
end Go.Proofs.Xe
namespace Go.Proofs.Xe
open Go.RowKit Go.Proofs.Ins
def NH(k:IntKind)(v:V):Option V:=match v with|.c (.int _ n)=>bif IY k n then some (.c (.int k n))else some (.c (.int k (k.wrap n)))|_=>none
def aqG(E:Env)(tm:Tr V)(σ:St)(K:V->St->Prop)(k:IntKind)(x:O):wpOp E (.conv k x) tm σ K=Gh (NH k (x.ev tm)) λv=>K v σ:=iy _ _ _ _ rfl λ_ _ h=>by cases h
def abu{k j:IntKind}{n:Int}(h:k.wrap n=n):NH k (.c (.int j n))=some (.c (.int k n)):=by grind[NH]
def aqH(j:IntKind)(a:Nat)(h:a<=9223372036854775807):NH .i64 (.c (.int j (.ofNat a)))=some (.c (.int .i64 (.ofNat a))):=abu (by grind[IntKind.wrap_i64])
def aqI(j:IntKind)(a:Nat)(h:a<=18446744073709551615):NH .u64 (.c (.int j (.ofNat a)))=some (.c (.int .u64 (.ofNat a))):=abu (by grind[IntKind.wrap_u64])
def aqJ(j:IntKind)(a:Nat):NH .u16 (.c (.int j (.ofNat a)))=some (.c (.int .u16 (.ofNat (a%65536)))):=by rfl
theorem CB(op:BinOp)(k:IntKind)(a b:Int):oP op (.c (.int k a)) (.c (.int k b))=SV op k a b:=by unfold oP;simp
def aui(k:IntKind)(a b:Nat)(h:0<b):oP .rem (.c (.int k (.ofNat a))) (.c (.int k (.ofNat b)))=some (.c (.int k (.ofNat (a%b)))):=by grind[CB,SV,Bz]
def aqK(k:IntKind)(a b:Nat)(h:0<b)(hw:k.wrap (Int.ofNat (a/b))=Int.ofNat (a/b)):oP .quo (.c (.int k (.ofNat a))) (.c (.int k (.ofNat b)))=some (.c (.int k (.ofNat (a/b)))):=by grind[CB,SV,Bz]
def yx(a b m:Nat)(h:a<=m):a/b<=m:=ap (fS _ _) h
def ad8(a b:Nat)(h:0<b)(h2:a<=65535):oP .quo (.c (.int .u16 (.ofNat a))) (.c (.int .u16 (.ofNat b)))=some (.c (.int .u16 (.ofNat (a/b)))):=aqK _ _ _ h (by have:=yx a b _ h2;grind[IntKind.wrap_u16])
def alP(k:IntKind)(a b:Nat)(ha:a<2^k.bits)(hb:b<2^k.bits):(BitVec.ofInt k.bits (Int.ofNat a)&&&BitVec.ofInt k.bits (Int.ofNat b)).toNat=a&&&b:=by grind
def ad9(a b:Nat)(ha:a<=9223372036854775807)(hb:b<=9223372036854775807):oP .and (.c (.int .i64 (.ofNat a))) (.c (.int .i64 (.ofNat b)))=some (.c (.int .i64 (.ofNat (a&&&b)))):=by rw[CB];unfold SV Bz;dsimp only;rw[alP .i64 a b (by show a<18446744073709551616;omega) (by show b<18446744073709551616;omega),IntKind.wrap_i64];grind[Nat.and_le_left]
def aea(a b:Nat):oP .add (.c (.int .u16 (.ofNat a))) (.c (.int .u16 (.ofNat b)))=some (.c (.int .u16 (.ofNat ((a+b)%65536)))):=by rfl
def aeb(a b:Nat):oP .mul (.c (.int .u16 (.ofNat a))) (.c (.int .u16 (.ofNat b)))=some (.c (.int .u16 (.ofNat (a*b%65536)))):=by rfl
def auj(a b:Nat)(h:a*b<=9223372036854775807):oP .mul (.c (.int .i64 (.ofNat a))) (.c (.int .i64 (.ofNat b)))=some (.c (.int .i64 (.ofNat (a*b)))):=by show mkI .i64 (Int.ofNat a*Int.ofNat b)=_;rw[show Int.ofNat a*Int.ofNat b=Int.ofNat (a*b)from rfl,TB h]
def auk(k j:IntKind)(a c:Nat):oP .shr (.c (.int k (.ofNat a))) (.c (.int j (.ofNat c)))=some (.c (.int k (.ofNat (a/2^min c k.bits)))):=by
 have e:oP .shr (.c (.int k (.ofNat a))) (.c (.int j (.ofNat c)))=Za .shr k (.ofNat a) (.ofNat c):=by
  unfold oP;dsimp only;by_cases h:k=j
  .subst h;rw[bp rfl];rfl
  grind
 rw[e];unfold Za;grind
def ag9:IntKind.bits .i64=64:=rfl
def aha:IntKind.bits .u16=16:=rfl
def ahb:IntKind.bits .u64=64:=rfl
def aqL(k:IntKind)(a b:Int):oP .eql (.c (.int k a)) (.c (.int k b))=some (.c (.bool (decide (a=b)))):=by rw[CB];rfl
def aqM(k:IntKind)(a b:Int):oP .neq (.c (.int k a)) (.c (.int k b))=some (.c (.bool (!decide (a=b)))):=by rw[CB];rfl
attribute [go_sem] aqG aqH aqI aqJ aui ad8 ad9 aea aeb auj auk ag9 aha ahb aqL aqM
end Go.Proofs.Xe
end
