import Derived.Test.YthkggcakedkboaaGreatDoorZ10
import Derived.Attr
set_option linter.all false
noncomputable section
namespace Go.Proofs.Xe
open Go.RowKit Go.Proofs.Ins
section
variable {E:Env}
theorem ak7{n:Nat}{op:vF}{tm:Tr V}{σ σ':St}{v:V}{K:V->St->Prop}(h:oJ (iU E n) op tm σ=some (v,σ'))(hk:K v σ'):wpOp E op tm σ K:=by
 unfold wpOp;split
 .next g args=>
  unfold oJ at h;simp only[vF.kind]at h;split at h
  .next f a e=>
   unfold aa0 at e;cases hg:g.ev tm with
   |fn f' caps=>
    dsimp only at e
    rw[hg]at e
    obtain⟨rfl,rfl⟩:=Prod.mk.inj (eC e)
    exact⟨n,v,σ',h,hk⟩
   |_=>grind
  .cases h
 .next hne=>
  have e:oJ (λ_ _ _=>none) op tm σ=oJ (iU E n) op tm σ:=by
   unfold oJ;cases hk2:op.kind with
   |c=>cases op<;>simp only[vF.kind,reduceCtorEq]at hk2;grind
   |_=>rfl
  grind
def agt{n:Nat}{o:AO}{tm:Tr V}{σ σ':St}{v:V}{K:V->St->Prop}(h:stepG (iU E n) o tm σ=some (v,σ'))(hk:K v σ'):wpG E o tm σ K:=by grind[wpG,stepG,ak7]
theorem Wn{n:Nat}:∀{l:List AO}{tm tm':Tr V}{σ σ':St}{Q:Tr V->St->Prop},rW (iU E n) l tm σ=some (tm',σ')->Q tm' σ'->wpOps E l tm σ Q
 |[],_,_,_,_,_,h,hq=>by cases h;exact hq
 |o::l,tm,tm',σ,σ',Q,h,hq=>by
  unfold rW at h;split at h
  .next v σ1 e=>
   rw[Kv]at h;exact agt e (Wn h hq)
  .cases h
theorem agu{n:Nat}{pt:List (List Nat)}{dH bM:Tr V}:∀{d:Dr}{σ σ':St}{res:List Rs}{pd:List iO}{tm':Tr V}{Q:Tr V->St->Prop},BL (iU E n) pt dH bM d σ res pd=some (tm',σ')->Q tm' σ'->VX E pt dH bM d σ res pd Q
 |.fin qs,σ,σ',res,pd,tm',Q,h,hq=>by grind[Go.Proofs.Xe.BL,Go.Proofs.Xe.VX]
 |.act qs x r,σ,σ',res,pd,tm',Q,h,hq=>by
  unfold BL at h;unfold VX;split at h
  .next σ1 res1 pd1 e=>
   rw[e];dsimp only;cases hb:pd1.all (again σ1)with
   |false=>rw[hb]at h;cases h
   |true=>
    rw[hb]at h
    simp only[cC]at h
    refine⟨rfl,?_⟩
    split at h
    .next VN e2=>
     rw[e2]
     dsimp only
     split at h
     .next v σ2 e3=>exact agt e3 (agu h hq)
     .cases h
    .cases h
  .cases h
end
section
variable (E:Env) (tm:Tr V) (σ:St) (Q:AX→Tr V→St→Prop)
def apY(l:List AO):bH E (.ops l) tm σ Q=wpOps E l tm σ λtm' σ'=>Q .normal tm' σ':=by
 refine propext ⟨?_,akx⟩;rintro⟨n,e,tm',σ',h,hq⟩;cases n with
 |zero=>grind[exec]
 |succ n=>
  simp only[exec,Vz]at h
  grind[Wn]
def atF(d:Dr)(pt:List (List Nat))(ds:List Nat):bH E (.drawn d pt ds) tm σ Q=VX E pt tm (Zh tm ds) d σ [] [] λtm' σ'=>Q .normal tm' σ':=by
 refine propext ⟨?_,apX⟩;rintro⟨n,e,tm',σ',h,hq⟩;cases n with
 |zero=>grind[exec]
 |succ n=>
  simp only[exec,xDr,Vz,IX]at h
  grind[agu]
def seq_eq(a b:AC):bH E (.seq a b) tm σ Q=bH E a tm σ (SY E b Q):=by
 refine propext ⟨?_,run_seq⟩;rintro⟨n,e,tm',σ',h,hq⟩;cases n with
 |zero=>grind[exec]
 |succ n=>
  rw[exec]at h
  cases hx:exec E n a tm σ with
  |none=>rw[hx]at h;cases h
  |some q=>
   rw[hx]at h
   obtain⟨e1,IQ,σ1⟩:=q
   refine⟨n,e1,IQ,σ1,hx,?_⟩
   cases e1 with
   |normal=>exact⟨n,e,tm',σ',h,hq⟩
   |exit i=>cases h;exact hq
   |ret=>cases h;exact hq
def agv(i:Nat)(a:AC):bH E (.block i a) tm σ Q=bH E a tm σ (afO i Q):=by
 refine propext ⟨?_,DV⟩;rintro⟨n,e,tm',σ',h,hq⟩;cases n with
 |zero=>grind[exec]
 |succ n=>
  rw[exec]at h
  cases hx:exec E n a tm σ with
  |none=>rw[hx]at h;cases h
  |some q=>
   rw[hx]at h
   obtain⟨e1,IQ,σ1⟩:=q
   refine⟨n,e1,IQ,σ1,hx,?_⟩
   cases e1 with
   |normal=>cases h;exact hq
   |exit j=>cases h;exact hq
   |ret=>cases h;exact hq
def ak8:bH E .skip tm σ Q=Q .normal tm σ:=by
 refine propext ⟨?_,VU⟩;rintro⟨n,e,tm',σ',h,hq⟩;cases n with
 |zero=>grind[exec]
 |succ n=>grind[exec]
def ak9(i:Nat):bH E (.exit i) tm σ Q=Q (.exit i) tm σ:=by
 refine propext ⟨?_,afM⟩;rintro⟨n,e,tm',σ',h,hq⟩;cases n with
 |zero=>grind[exec]
 |succ n=>grind[exec]
def apZ:bH E .ret tm σ Q=Q .ret tm σ:=by
 refine propext ⟨?_,akv⟩;rintro⟨n,e,tm',σ',h,hq⟩;cases n with
 |zero=>grind[exec]
 |succ n=>grind[exec]
def ifV(v:V)(P:Bool->Prop):Prop:=match v with|.c (.bool t)=>P t|_=>False
def ala(x:O)(a b:AC):bH E (.cond x a b) tm σ Q=ifV (x.ev tm) λt=>bH E (bif t then a else b) tm σ Q:=by
 refine propext ⟨?_,λh=>?_⟩
 .rintro⟨n,e,tm',σ',h,hq⟩;cases n with
  |zero=>grind[exec]
  |succ n=>
   simp only[exec,aa2]at h
   split at h
   .next t e=>rw[e];exact⟨n,_,_,_,h,hq⟩
   .cases h
 .unfold ifV at h;grind[afN]
def ap0(a b:AC):bH E (bif true then a else b) tm σ Q=bH E a tm σ Q:=rfl
def ap1(a b:AC):bH E (bif false then a else b) tm σ Q=bH E b tm σ Q:=rfl
def alb(a b:AC):bH E (bif !true then a else b) tm σ Q=bH E b tm σ Q:=rfl
def alc(a b:AC):bH E (bif !false then a else b) tm σ Q=bH E a tm σ Q:=rfl
def agw(n:Nat)(b:AC)(r:List (Nat×Option (Nat×Bool))):bH E (AF.body ⟨n,b,r⟩) tm σ Q=bH E b tm σ Q:=rfl
def agx(P:Bool->Prop):ifV (.c (.bool true)) P=P true:=rfl
def adB(P:Bool->Prop):ifV (.c (.bool false)) P=P false:=rfl
def ald(b:Bool)(P:Bool->Prop):ifV (.c (.bool (!b))) P=ifV (.c (.bool b)) λt=>P (!t):=rfl
def aH{p:Prop}[Decidable p]{P:Bool->Prop}(h1:p->P true)(h2:¬p->P false):ifV (.c (.bool (decide p))) P:=by
 show P (decide p);by_cases h:p
 .grind
 grind
def atG{b:Bool}{P:Bool->Prop}(h1:b=true->P true)(h2:b=false->P false):ifV (.c (.bool b)) P:=by
 show P b;cases b with
 |true=>grind
 |false=>grind
def tick:Prop:=∀n:Nat,n=n
def adC:tick=True:=propext ⟨λ_=>trivial,λ_ _=>rfl⟩
@[congr] theorem asx {z:Prop} {v v' : V} {P:Bool→Prop} (hz:tick=z) (h:v=v'):ifV v P=ifV v' P:=by rw [h]
@[congr] theorem asy {z:Prop} {v v' : Option V} {P:V→Prop} (hz:tick=z) (h:v=v'):FX v P=FX v' P:=by rw [h]
@[congr] theorem ap2 {z:Prop} {c:AC} {tm tm' : Tr V} {σ σ' : St} {Q:AX→Tr V→St→Prop} (hz:tick=z) (h:tm=tm') (h2:σ=σ'):bH E c tm σ Q=bH E c tm' σ' Q:=by rw [h,h2]
@[congr] theorem anV {z:Prop} {c:List AO} {tm tm' : Tr V} {σ σ' : St} {Q:Tr V→St→Prop} (hz:tick=z) (h:tm=tm') (h2:σ=σ'):wpOps E c tm σ Q=wpOps E c tm' σ' Q:=by rw [h,h2]
@[congr] theorem asz {z:Prop} {c:AO} {tm tm' : Tr V} {σ σ' : St} {Q:V→St→Prop} (hz:tick=z) (h:tm=tm') (h2:σ=σ'):wpG E c tm σ Q=wpG E c tm' σ' Q:=by rw [h,h2]
@[congr] theorem ap3 {z:Prop} {c:vF} {tm tm' : Tr V} {σ σ' : St} {Q:V→St→Prop} (hz:tick=z) (h:tm=tm') (h2:σ=σ'):wpOp E c tm σ Q=wpOp E c tm' σ' Q:=by rw [h,h2]
@[congr] theorem anW {z:Prop} {f:Nat} {a a' : List V} {σ σ' : St} {Q:V→St→Prop} (hz:tick=z) (h:a=a') (h2:σ=σ'):aC E f a σ Q=aC E f a' σ' Q:=by rw [h,h2]
@[congr] theorem asA {z:Prop} {dH bM:Tr V} {qs:List DO} {σ σ' : St} {res res' : List Rs} {pd pd' : List iO} {K:St→List Rs→List iO→Prop} (hz:tick=z) (h2:σ=σ') (h3:res=res') (h4:pd=pd'):uH dH bM qs σ res pd K=uH dH bM qs σ' res' pd' K:=by grind
@[congr] theorem asB {z:Prop} {pt:List (List Nat)} {dH bM:Tr V} {d:Dr} {σ σ' : St} {res res' : List Rs} {pd pd' : List iO} {K:Tr V→St→Prop} (hz:tick=z) (h2:σ=σ') (h3:res=res') (h4:pd=pd'):VX E pt dH bM d σ res pd K=VX E pt dH bM d σ' res' pd' K:=by grind
@[congr] theorem asC {z:Prop} {σ σ' : St} {pd pd' : List iO} (hz:tick=z) (h:σ=σ') (h2:pd=pd'):agn σ pd=agn σ' pd':=by rw [h,h2]
@[congr] theorem ap4 {z:Prop} {i i' : Nat} {o:AO} {tm:Tr V} {v:V} {g:Bool} {nm:Option Nat} (hz:tick=z) (h:i=i'):iO.mk i o tm v g nm=iO.mk i' o tm v g nm:=by rw [h]
@[congr] theorem anX {z:Prop} {σ σ' : St} {p:iO} (hz:tick=z) (h:σ=σ'):again σ p=again σ' p:=by rw [h]
@[congr] theorem asD {z:Prop} {dH bM:Tr V} {res:List Rs} {us us' os:List Nat} (hz:tick=z) (h:us=us'):L8 dH bM res us os=L8 dH bM res us' os:=by rw [h]
@[congr] theorem ap5 {z:Prop} {bM:Tr V} {res:List Rs} {us us' : List Nat} (hz:tick=z) (h:us=us'):IG bM res us=IG bM res us':=by rw [h]
@[congr] theorem asE {z:Prop} {res:List Rs} {u u' : Nat} (hz:tick=z) (h:u=u'):fnd res u=fnd res u':=by rw [h]
@[congr] theorem anY {z:Prop} {dH tm:Tr V} {os os' : List Nat} (hz:tick=z) (h:os=os'):EM dH tm os=EM dH tm os':=by rw [h]
@[congr] theorem ap6 {z:Prop} {g:Option (Nat×Bool)} {tm:Tr V} {A B:Prop} (hz:tick=z):Bf g tm A B=Bf g tm A B:=rfl
@[congr] theorem asF {z:Prop} {v v' : V} {b:Bool} {A B:Prop} (hz:tick=z) (h:v=v'):gsV v b A B=gsV v' b A B:=by rw [h]
@[congr] theorem atH {z:Prop} {g:Option (Nat×Bool)} {dH bM:Tr V} {res:List Rs} {us os:List Nat} {σ:St} {pd:List iO} {i:Nat} {d:Option Nat} {op:vF} {l:List DO} {K:St→List Rs→List iO→Prop} (hz:tick=z):qR g dH bM res us os σ pd i d op l K=qR g dH bM res us os σ pd i d op l K:=rfl
def ale(E:Env)(d:Option Nat)(g:Option (Nat×Bool))(op:vF)(tm:Tr V)(σ:St)(K:V->St->Prop):wpG E ⟨d,g,op⟩ tm σ K=Bf g tm (wpOp E op tm σ K) (K .tnil σ):=rfl
def ap7(x:O)(K:V->St->Prop):wpOp E (.mov x) tm σ K=FX (some (x.ev tm)) λv=>K v σ:=rfl
def ap8(b:AC):SY E b Q .normal tm σ=bH E b tm σ Q:=rfl
def ap9(b:AC)(i:Nat):SY E b Q (.exit i) tm σ=Q (.exit i) tm σ:=rfl
def aqa(b:AC):SY E b Q .ret tm σ=Q .ret tm σ:=rfl
def aqb(i:Nat):afO i Q .normal tm σ=Q .normal tm σ:=rfl
def aqc(i j:Nat):afO i Q (.exit j) tm σ=Q (bif Nat.beq j i then .normal else .exit j) tm σ:=rfl
def aqd(i:Nat):afO i Q .ret tm σ=Q .ret tm σ:=rfl
variable (I:Nat→Tr V→St→Prop) (m:Nat) (res:List (Nat×Option (Nat×Bool))) (K:V→St→Prop)
def aqe:akw I m Q .normal tm σ=∃m',m'<m/\I m' tm σ:=rfl
def aqf(i:Nat):akw I m Q (.exit i) tm σ=Q (.exit i) tm σ:=rfl
def aqg:akw I m Q .ret tm σ=Q .ret tm σ:=rfl
def alf:Zd res K .normal tm σ=FX (result tm σ res) λv=>K v σ:=by unfold Zd FX;grind
def aqh:Zd res K .ret tm σ=FX (result tm σ res) λv=>K v σ:=by unfold Zd FX;grind
end
def aqi(p q:Rat):decide (oO p q<0)=decide (p<q):=by
 by_cases h:p<q
 .rw[bw h,bw];exact ql.mpr h
 .rw[az h,az];exact λe=>h (ql.mp e)
def agy(tm:Tr V)(d:Nat)(v:V):Tr.get (En tm (some d) v) d=some v:=by grind[En,Tr.tu]
def aqj(tm:Tr V)(d j:Nat)(v:V)(h:j≠d):Tr.get (En tm (some d) v) j=Tr.get tm j:=by grind[En,Tr.tu]
def Zm(tm:Tr V)(σ:St):oQ tm σ []=some .tnil:=rfl
def agz(tm:Tr V)(σ:St)(t:Nat)(r:List (Nat×Option (Nat×Bool))):oQ tm σ ((t,none)::r)=match tm.get t,oQ tm σ r with|some v,some w=>some (.aX v w)|_,_=>none:=rfl
def agA(tm:Tr V)(σ:St)(t n:Nat)(g:Bool)(r:List (Nat×Option (Nat×Bool))):oQ tm σ ((t,some (n,g))::r)=match(match tm.ah t with|.c (.ptr b o)=>ld σ.h b o n g|_=>none),oQ tm σ r with|some v,some w=>some (.aX v w)|_,_=>none:=rfl
def Fr.new1{σ:St}{h:Tr Bk}{n:Nat}{k:Bk}(hf:Fr σ ⟨h,n⟩):Fr σ ⟨hset h n k,n+1⟩:=Fr.new hf k
def Fr.set1{σ:St}{h:Tr Bk}{n b:Nat}{k:Bk}(hf:Fr σ ⟨h,n⟩)(h1:σ.aj<=b)(h2:b<n):Fr σ ⟨hset h b k,n⟩:=Fr.set hf h1 h2 k
def ak{h:Tr Bk}{b:Nat}{k:Bk}(e:h b=some k)(o n:Nat)(g:Bool):ld h b o n g=bif k.rd then yY k.cells o n g else none:=by unfold ld;rw[e]
def aJ{h:Tr Bk}{b:Nat}{k:Bk}(e:h b=some k)(o:Nat)(vs:List B):sto h b o vs=match bif k.pl then xX k.cells o vs else none with|some l=>some (hset h b ⟨l,k.opn⟩)|none=>none:=by grind[sto]
def plo(o:Option (Nat×Nat)):Bool:=match o with|some (0,_)=>false|_=>true
def Yr(o:Option (Nat×Nat)):Bool:=match o with|some (0,t)=>Nat.beq t 1|_=>true
def aqk(k:Bk):k.pl=plo k.opn:=rfl
def Nc(k:Bk):k.rd=Yr k.opn:=rfl
def agB:plo none=true:=rfl
def agC:Yr none=true:=rfl
def anZ(e t:Nat)(h:e≠0):plo (some (e,t))=true:=by cases e with|zero=>omega|succ e=>rfl
def Cb(e t:Nat)(h:e≠0):Yr (some (e,t))=true:=by cases e with|zero=>omega|succ e=>rfl
def atI:Yr (some (0,1))=true:=rfl
def agD(k:IntKind)(n:Int):B.kn (.int k n)=true:=rfl
theorem Ae(b:Bool):B.kn (.bool b)=true:=rfl
theorem Fj(s:ByteArray):B.kn (.str s)=true:=rfl
def aql(b o:Nat):B.kn (.ptr b o)=true:=rfl
def alg:B.kn .Sr=true:=rfl
def atJ(b o n:Nat)(c:Cap):B.kn (.sl b o n c)=true:=rfl
def alh:B.kn .aV=true:=rfl
def atK(b:Nat):B.kn (.mp b)=true:=rfl
def HL.kn{h:Tr Bk}{e:Nat}{v:B}{n:Nat}{G:Nat->List B}(hl:HL h e v n G):v.kn=true:=by rcases hl with⟨-,rfl⟩|⟨b,o,c,rfl,-⟩<;>rfl
def HC.kn{h:Tr Bk}{v:B}{n:Nat}{G:Nat->B}(hl:HC h v n G):v.kn=true:=by rcases hl with⟨-,rfl⟩|⟨b,o,c,rfl,-⟩<;>rfl
def atL(x:B)(l:List B)(o n:Nat):yY (x::l) o n true=bif Nat.beq (((x::l).drop o).take n).length n&&(((x::l).drop o).take n).all B.kn then some (.agg (((x::l).drop o).take n))else none:=rfl
def atM(x:B)(l:List B)(o n:Nat):yY (x::l) o n false=match(x::l).drop o with|x::_=>bif x.kn then some (.c x)else none|[]=>none:=rfl
def atN(x:B)(l vs:List B):xX (x::l) 0 vs=bif Nat.ble vs.length (x::l).length then some (vs++(x::l).drop vs.length)else none:=by rw[xX]
def atO(x:B)(l:List B)(o:Nat)(vs:List B):xX (x::l) (o+1) vs=match xX l o vs with|some r=>some (x::r)|none=>none:=by rfl
def agE(a b:Nat):(Int.ofNat a=Int.ofNat b)=(a=b):=propext ⟨Int.ofNat.inj,λe=>by rw[e]⟩
def eq_neg(a b:Nat):(Int.ofNat a=Int.negSucc b)=False:=by simp
def atP[h:Decidable True]: @decide True h=true:=by simp
def atQ[h:Decidable False]: @decide False h=false:=by simp
attribute [go_sem] adC alb alc ap0 ap1 agw adu wpOps_cons afY ape o_load akE akF akG apf atl apg aph apj apk atm atn ato atp atq atr att apl apm atu atv atw akH akI apn aty atx atz akJ BK apo YX atA akD adt apq akK atB apr JD rep atC akL aps awr awt adk akB adl adn ado adp adq adr V.cells akC atj afX apc aA awu awv cT et Bool.and_true Bool.true_and List.drop_succ_cons gz ga cI bX List.length_nil Nat.reduceAdd cP cD aa9 Nb vI ES au dt List.nil_append gC List.map_cons List.map_nil result afW aG akS akT akO apC akW akY aga agc agf apE apI apL agi agk apP apS akZ agm ak1 apV agq ak3 ak5 ady akP akQ apt af2 adv af4 akM af5 adw Zi af6 adx af0 akR af7 apD akX agb agd agh apG apJ apO agj agl apQ apU ak0 agp ak2 apW ags ak4 ak6 Zl Wj adA akU atD Zj adz List.contains_cons List.contains_nil Nat.reduceBEq Bool.or_false Bool.or_true Bool.false_or Bool.true_or cC fo List.getD_cons_zero List.getD_cons_succ am and_true ale apu apv apw apx apy apz akN atE akV ap7 apY atF seq_eq agv ak8 ak9 apZ ala agx adB ald ap8 ap9 aqa aqb aqc aqd aqe aqf aqg alf aqh aqi agD Ae Fj aql alg atJ alh atK atL atM atN atO agE eq_neg atP atQ aqk Nc agB agC anZ Cb atI agy aqj Zm agz agA atg Zf Zg afV adi ath ati ao8 afU ate ao7 afT adh V6 ao5 V4 ao6 V5 adg atf akz aa8 ao9 V9 apa apb akA V7
def bK:Nat->(Nat->List B)->List B
 |0,_=>[]
 |n+1,G=>G 0++bK n λi=>G (i+1)
def Wp{e:Nat}:∀{n:Nat}{G:Nat->List B}{i:Nat},(∀j,(G j).length=e)->i<n->∃r,(bK n G).drop (i*e)=G i++r
 |0,_,_,_,h=>jb
 |n+1,G,0,_,_=>⟨bK n λi=>G (i+1),by rw[il];rfl⟩
 |n+1,G,i+1,hG,h=>by obtain⟨r,hr⟩:=Wp (G:=λi=>G (i+1)) (i:=i) (λj=>hG (j+1)) (by omega:i<n);refine⟨r,?_⟩;show(G 0++bK n λi=>G (i+1)).drop _=_;rw[cB,fj,<-hG 0,List.drop_length_add_append,hG 0];exact hr
def yG{e n i k m:Nat}{G:Nat->List B}(g:Bool)(hG:∀j,(G j).length=e)(h:i<n)(hk:k+m<=e)(hm:0<m):yY (bK n G) (i*e+k) m g=yY (G i) k m g:=by
 obtain⟨r,hr⟩:=Wp hG h;have hd:(bK n G).drop (i*e+k)=(G i).drop k++r:=by rw[<-List.drop_drop,hr,List.drop_append_of_le_length kd]
 have hl:((G i).drop k).length=e-k:=by grind
 unfold yY;grind
def agF:∀(p:List B) (l:List B) (o:Nat) (vs:List B),xX (p++l) (p.length+o) vs=match xX l o vs with|some r=>some (p++r)|none=>none
 |[],l,o,vs=>by grind
 |x::p,l,o,vs=>by rw[gC,bX,show p.length+1+o=(p.length+o)+1 by omega,xX,agF p l o vs];cases xX l o vs<;>rfl
def abe:∀(p:List B) (l:List B) (o:Nat) (vs:List B),o+vs.length<=p.length->xX (p++l) o vs=match xX p o vs with|some r=>some (r++l)|none=>none
 |p,l,0,vs,h=>by grind[xX,vI]
 |[],l,o+1,vs,h=>by simp at h
 |x::p,l,o+1,vs,h=>by rw[gC,xX,xX,abe p l o vs (by simp only[bX]at h;omega)];cases xX p o vs<;>rfl
def ji(G:Nat->List B)(i:Nat)(r:List B):Nat->List B:=λj=>if j=i then r else G j
def Af{e k:Nat}{vs:List B}:∀{n i:Nat}{G:Nat->List B},(∀j,(G j).length=e)->i<n->k+vs.length<=e->xX (bK n G) (i*e+k) vs=match xX (G i) k vs with|some r=>some (bK n (ji G i r))|none=>none
 |0,_,_,_,h,_=>jb
 |n+1,0,G,hG,_,hk=>by rw[il,cP];show xX (G 0++_) k vs=_;rw[abe _ _ _ _ kd];rfl
 |n+1,i+1,G,hG,h,hk=>by
  show xX (G 0++bK n λi=>G (i+1)) _ vs=_;rw[show(i+1)*e+k=(G 0).length+(i*e+k) by rw[hG,cB];omega,agF,Af (λj=>hG (j+1)) jb hk];cases xX (G (i+1)) k vs with
  |none=>rfl
  |some r=>
   show some _=some _
   congr 1
   show G 0++_=ji G (i+1) r 0++_
   congr 2
   funext j
   unfold ji
   simp only[Nat.add_right_cancel_iff]
theorem bZ:∀{n:Nat}{G H:Nat->List B},(∀i,i<n->G i=H i)->bK n G=bK n H
 |0,_,_,_=>rfl
 |n+1,G,H,h=>by unfold bK;rw[h 0 jb,bZ λi hi=>h (i+1) jb]
def Kw(z:List B):∀n,rep z n=bK n λ_=>z
 |0=>rfl
 |n+1=>by unfold rep bK;rw[Kw z n]
theorem lZ:∀(n:Nat) (G:Nat->List B) (r:List B),bK n G++r=bK (n+1) (ji G n r)
 |0,G,r=>by grind[bK,ji]
 |n+1,G,r=>by rw[bK,ie,lZ n _ r];show _=ji G (n+1) r 0++bK (n+1) _;congr 2;funext j;unfold ji;simp only[Nat.add_right_cancel_iff]
def qF{e:Nat}:∀{n:Nat}{G:Nat->List B},(∀j,(G j).length=e)->(bK n G).length=n*e
 |0,_,_=>by simp[bK]
 |n+1,G,h=>by rw[bK,aD,h,qF λj=>h (j+1),cB];omega
def yH{h:Tr Bk}{b o n:Nat}{cs:List B}(e:ld h b o n true=some (.agg cs))(k m:Nat)(g:Bool)(hk:k+m<=n)(hm:0<m):ld h b (o+k) m g=yY cs k m g:=by
 unfold ld at e⊢;cases hb:h b with
 |none=>grind
 |some bk=>
  rw[hb]at e
  dsimp only at e⊢
  cases hr:bk.rd with
  |false=>grind
  |true=>
   rw[hr]at e
   simp only[cC]at e⊢
   unfold yY at e
   dsimp only at e
   cases hx:(Nat.beq ((bk.cells.drop o).take n).length n&&((bk.cells.drop o).take n).all B.kn)with
   |false=>grind
   |true=>
    rw[hx]at e
    cases e
    rw[af]at hx
    have hl:=ap hx.1
    rw[di]at hl
    unfold yY
    cases g with
    |true=>
     grind[List.drop_take,List.drop_drop]
    |false=>
     dsimp only
     rw[List.drop_take,List.drop_drop]
     have hd:n-k=(n-k-1)+1:=jb
     grind
def Ag{h:Tr Bk}{b o n:Nat}{cs:List B}(e:ld h b o n true=some (.agg cs))(m:Nat)(g:Bool)(hk:m<=n)(hm:0<m):ld h b o m g=yY cs 0 m g:=yH e 0 m g jb hm
def gY(q:Rat):List B:=[.bool (rn q),.str (rs q),.str (rd q)]
def bU(n:Nat)(f:Nat->Rat):List B:=bK n λi=>gY (f i)
def aN{α:Type}(f:Nat->α)(i:Nat)(q:α):Nat->α:=λj=>if j=i then q else f j
def Tf(n:Nat)(f:Nat->Rat)(i:Nat)(h:i<n):yY (bU n f) (i*3) 3 true=some (.agg [.bool (rn (f i)),.str (rs (f i)),.str (rd (f i))]):=by unfold bU;have:=yG (e:=3) (k:=0) (m:=3) (G:=λi=>gY (f i)) true (λ_=>rfl) h jj jj;rw[cD]at this;rw[this];rfl
def ali(n:Nat)(f:Nat->Rat)(i:Nat)(q:Rat)(h:i<n):xX (bU n f) (i*3) [.bool (rn q),.str (rs q),.str (rd q)]=some (bU n (aN f i q)):=by unfold bU;have:=Af (e:=3) (k:=0) (vs:=gY q) (G:=λi=>gY (f i)) (λ_=>rfl) h (cL 3);rw[cD]at this;show xX _ _ (gY q)=_;rw[this];show some _=some _;congr 2;funext j;unfold ji aN;split<;>rfl
theorem dw{n:Nat}{f g:Nat->Rat}(h:∀i,i<n->f i=g i):bU n f=bU n g:=bZ λi hi=>by grind
def agG(n:Nat):rep [.bool (rn 0),.str (rs 0),.str (rd 0)] n=bU n λ_=>0:=Kw _ n
def adE(n:Nat)(f:Nat->Rat)(q:Rat):bU n f++[.bool (rn q),.str (rs q),.str (rd q)]=bU (n+1) (aN f n q):=by unfold bU;rw[show [B.bool (rn q),.str (rs q),.str (rd q)]=gY q from rfl,lZ];congr 1;grind[ji,aN]
theorem Nh(n:Nat)(f:Nat->Rat):(bU n f).length=n*3:=qF λ_=>rfl
def ones(n:Nat)(g:Nat->B):List B:=bK n λi=>[g i]
def abf(n:Nat)(g:Nat->B)(i:Nat)(h:i<n):yY (ones n g) (i*1) 1 false=bif (g i).kn then some (.c (g i))else none:=by unfold ones;have:=yG (e:=1) (k:=0) (m:=1) (G:=λi=>[g i]) false (λ_=>rfl) h jj jj;rw[cD]at this;rw[this];rfl
def alj(n:Nat)(g:Nat->B)(i:Nat)(x:B)(h:i<n):xX (ones n g) (i*1) [x]=some (ones n (aN g i x)):=by unfold ones;have:=Af (e:=1) (k:=0) (vs:=[x]) (G:=λi=>[g i]) (λ_=>rfl) h (cL 1);rw[cD]at this;rw[this];show some _=some _;congr 2;grind[ji,aN]
def dR{n:Nat}{f g:Nat->B}(h:∀i,i<n->f i=g i):ones n f=ones n g:=bZ λi hi=>by grind
def agH(x:B)(n:Nat):rep [x] n=ones n λ_=>x:=Kw _ n
theorem Nj(n:Nat)(g:Nat->B):(ones n g).length=n*1:=qF λ_=>rfl
theorem aP{α:Type}(f:Nat->α)(i:Nat)(q:α):aN f i q i=q:=ab rfl
theorem aQ{α:Type}(f:Nat->α)(i j:Nat)(q:α)(h:j≠i):aN f i q j=f j:=ae h
def Ti:Option V->Nat->Option Nat
 |none,d=>some d
 |some v,_=>JD v
def agI(b:Option O)(tm:Tr V)(d:Nat):Vx b tm d=Ti (b.map (·.ev tm)) d:=by cases b<;>rfl
def Tj(gy:Nat)(x:V)(lo hi mx:Option V):Option V:=
 match x with
 |.c (.sl b o n c)=>
  match Ti lo 0,Ti hi n with
  |some l,some h=>bif Nat.ble l h&&Nat.ble h n then
    match mx with
    |none=>(match c with
     |.ex k=>bif Nat.blt l k then some (.c (.sl b (o+l*gy) (h-l) (.ex (k-l))))else some (.c (.sl b o 0 .any))
     |.opn=>bif Nat.beq l 0 then some (.c (.sl b o h .opn))else bif Nat.blt l n then some (.c (.sl b (o+l*gy) (h-l) .any))else some (.c (.sl b o 0 .any))
     |.any=>bif Nat.blt l n then some (.c (.sl b (o+l*gy) (h-l) .any))else some (.c (.sl b o 0 .any)))
    |some y=>match JD y with
     |some q=>bif Nat.ble h q&&Nat.ble q n then bif Nat.beq l 0 then some (.c (.sl b o h (bif Nat.beq n 0 then .any else .ex q)))else none else none
     |none=>none
   else none
  |_,_=>none
 |.c .aV=>match Ti lo 0,Ti hi 0 with
  |some 0,some 0=>(match mx with|none=>some (.c .aV)|some y=>match JD y with|some 0=>some (.c .aV)|_=>none)
  |_,_=>none
 |_=>none
def Wq(gy:Nat)(x:O)(lo hi mx:Option O)(tm:Tr V):LZ gy x lo hi mx tm=Tj gy (x.ev tm) (lo.map (·.ev tm)) (hi.map (·.ev tm)) (mx.map (·.ev tm)):=by unfold LZ Tj;simp only[qw,agI];cases mx<;>rfl
def alk(E:Env)(tm:Tr V)(σ:St)(K:V->St->Prop)(gy:Nat)(x:O)(lo hi mx:Option O):wpOp E (.slice gy x lo hi mx) tm σ K=FX (Tj gy (x.ev tm) (lo.map (·.ev tm)) (hi.map (·.ev tm)) (mx.map (·.ev tm))) λv=>K v σ:=by rw[iC _ _ _ _ (by rfl) λ_ _ h=>by cases h];show FX (LZ gy x lo hi mx tm) _=_;rw[Wq]
def alm:B->Prop
 |.sl _ _ n (.ex k)=>n<=k
 |_=>True
def aqm{v:B}{n h:Nat}(hc:alm v)(hv:(n=0/\v=.aV)\/∃b o c,v=.sl b o n c/\0<n)(hh:h<=n)(gy:Nat):∃v',Tj gy (.c v) none (some (.c (.int .i64 (.ofNat h)))) none=some (.c v')/\alm v'/\((n=0/\v'=.aV)\/∃b o c c',v=.sl b o n c/\v'=.sl b o h c'):=by
 rcases hv with⟨rfl,rfl⟩|⟨b,o,c,rfl,hn⟩
 .have:h=0:=jb;subst this;exact⟨.aV,rfl,trivial,.inl ⟨rfl,rfl⟩⟩
 .cases c with
  |ex k=>
   have hc:n<=k:=hc
   refine⟨.sl b o h (.ex k),?_,by show h<=k;omega,.inr ⟨b,o,_,_,rfl,rfl⟩⟩
   grind[Tj,Ti,JD,vI,ES]
  |opn=>
   refine⟨.sl b o h .opn,?_,trivial,.inr ⟨b,o,_,_,rfl,rfl⟩⟩
   grind[Tj,Ti,JD,vI,aa9]
  |any=>
   refine⟨.sl b o h .any,?_,trivial,.inr ⟨b,o,_,_,rfl,rfl⟩⟩
   grind[Tj,Ti,JD,vI,ES]
attribute [go_sem] alk Option.map_some Option.map_none
attribute [go_sem] Tf ali agG abf alj agH
structure aT(ex:List Nat)(σ σ':St):Prop where
 le:σ.aj<=σ'.aj
 wf:WF σ'
 old:∀b,b<σ.aj->¬b∈ex->σ'.h b=σ.h b
def Fr.ex{σ σ':St}(h:Fr σ σ')(ex:List Nat):aT ex σ σ':=⟨h.le,h.wf,λb hb _=>h.old b hb⟩
theorem aT.refl{σ:St}{ex:List Nat}(h:WF σ):aT ex σ σ:=(Fr.refl h).ex ex
def aT.trans{ex:List Nat}{σ σ' MH:St}(h:aT ex σ σ')(h':aT ex σ' MH):aT ex σ MH:=⟨aw h.le h'.le,h'.wf,λb hb hx=>(h'.old b (aL hb h.le) hx).trans (h.old b hb hx)⟩
def aT.to{ex:List Nat}{σ0 σ σ':St}(h:Fr σ0 σ)(he:aT ex σ σ')(hx:∀b∈ex,σ0.aj<=b):Fr σ0 σ':=⟨aw h.le he.le,he.wf,λb hb=>(he.old b (aL hb h.le) λhm=>by grind).trans (h.old b hb)⟩
def aT.to'{ex ex':List Nat}{σ0 σ σ':St}(h:aT ex' σ0 σ)(he:aT ex σ σ')(hx:∀b∈ex,σ0.aj<=b\/b∈ex'):aT ex' σ0 σ':=⟨aw h.le he.le,he.wf,λb hb hn=>(he.old b (aL hb h.le) λhm=>by grind).trans (h.old b hb hn)⟩
def aT.new1{ex:List Nat}{σ:St}{h:Tr Bk}{n:Nat}{k:Bk}(hf:aT ex σ ⟨h,n⟩):aT ex σ ⟨hset h n k,n+1⟩:=
 ⟨Nat.le_succ_of_le hf.le,λb hb=>by
  have hb:n+1<=b:=hb;show hset h n k b=none;rw[au _ _ _ _ jb];exact hf.wf b (show n<=b by omega),λb hb hx=>by
  show hset h n k b=_;have:σ.aj<=n:=hf.le;rw[au _ _ _ _ jb];exact hf.old b hb hx⟩
def aT.set1{ex:List Nat}{σ:St}{h:Tr Bk}{n b:Nat}{k:Bk}(hf:aT ex σ ⟨h,n⟩)(hb:σ.aj<=b\/b∈ex)(hb2:b<n):aT ex σ ⟨hset h b k,n⟩:=
 ⟨hf.le,λj hj=>by
  have hj:n<=j:=hj;show hset h b k j=none;rw[au _ _ _ _ jb];exact hf.wf j hj,λj hj hx=>by
  show hset h b k j=_;rw[au _ _ _ _ (λe=>by grind)];exact hf.old j hj hx⟩
theorem aT.ld{ex:List Nat}{σ σ':St}(h:WF σ)(hf:aT ex σ σ'){b o n:Nat}{g:Bool}{v:V}(hx:¬b∈ex)(hb:Xe.ld σ.h b o n g=some v):Xe.ld σ'.h b o n g=some v:=by have hlt:=h.cZ hb;unfold Xe.ld at hb⊢;rw[hf.old b hlt hx];exact hb
def aT.get{ex:List Nat}{σ σ':St}(h:WF σ)(hf:aT ex σ σ'){b:Nat}{k:Bk}(hx:¬b∈ex)(hb:σ.h b=some k):σ'.h b=some k:=by rw[hf.old b (h.lt hb) hx];exact hb
def uK:Nat:=1000
def dK:Nat:=29000000
def eK:Nat:=29002000
def Zk(D k:Nat)(q:Rat):Prop:=∃a:Int,q=(a:Rat)/(D:Rat)/\a.natAbs<=k*(D*256^uK)
def Bz(D:Nat):Prop:=0<D/\D<256^dK
def aln{D k u d s a:Nat}(hD:D<256^d)(hk:k<=256^u)(hs:u+d+u<=s)(ha:a<=k*(D*256^u)):a<256^s:=by have h1:(256:Nat)^(u+d+u)<=256^s:=bB jj hs;refine cU ha (aL ?_ h1);rw[eo,eo,fX];exact cU (br _ hk) (Nat.mul_lt_mul_of_pos_left (eL hD (dj jj)) (dj jj))
def Sm.int{k:Nat}{a:Int}(hk:k≠0)(h:a.natAbs<256^k):Sm k (a:Rat):=⟨by show(a:Rat).num.natAbs<_;simp_all,by simp_all⟩
section
variable {D k l:Nat} {p q:Rat}
def Bz.ne(h:Bz D):(D:Rat)≠0:=by have:=h.1;intro e;simp_all
def Zk.int{a:Int}(hD:Bz D)(hk:k<=256^uK)(h:a.natAbs<=k*(D*256^uK)):Sm eK (a:Rat):=Sm.int jj (aln hD.2 hk jj h)
def Zk.sz(h:Zk D k q)(hD:Bz D)(hk:k<=256^uK):Sz q:=by obtain⟨a,rfl,h2⟩:=h;have h3:Sm dK ((D:Int):Rat):=Sm.int jj hD.2;exact((Zk.int hD hk h2).div h3 hD.ne).mono jj
def Zk.atS(h:Zk D k p)(h':Zk D l q)(hD:Bz D)(hk:k<=256^uK)(hl:l<=256^uK)(h0:q≠0):Sz (p/q):=by
 obtain⟨a,rfl,h2⟩:=h;obtain⟨b,rfl,h3⟩:=h';have hb:(b:Rat)≠0:=λe=>h0 kd;have e:(a:Rat)/(D:Rat)/((b:Rat)/(D:Rat))=(a:Rat)/(b:Rat):=by grind
 rw[e];exact((Zk.int hD hk h2).div (Zk.int hD hl h3) hb).mono jj
def Zk.mono(h:Zk D k q)(hkl:k<=l):Zk D l q:=by obtain⟨a,e,h2⟩:=h;exact⟨a,e,aw h2 (br _ hkl)⟩
theorem Zk.add(h:Zk D k p)(h':Zk D l q):Zk D (k+l) (p+q):=by
 obtain⟨a,rfl,h2⟩:=h;obtain⟨b,rfl,h3⟩:=h';refine⟨a+b,?_,?_⟩
 .rw[Rat.intCast_add];grind
 .rw[hJ];omega
def Zk.neg(h:Zk D k p):Zk D k (-p):=by obtain⟨a,rfl,h2⟩:=h;refine⟨-a,?_,jb⟩;grind
def Zk.sub(h:Zk D k p)(h':Zk D l q):Zk D (k+l) (p-q):=by rw[iS];exact h.add h'.neg
theorem Zk.zero:Zk D k 0:=⟨0,by grind,by simp⟩
end
def hdel(h:Tr Bk)(b:Nat):Tr Bk:=h.set b none
theorem Tm(h:Tr Bk)(b j:Nat):hdel h b j=if j=b then none else h j:=Tr.tu h b none j
theorem iD(h:Tr Bk)(b j:Nat)(e:j≠b):hdel h b j=h j:=by grind[Tm]
def aqn(h:Tr Bk)(b j o n:Nat)(g:Bool)(e:j≠b):ld (hdel h b) j o n g=ld h j o n g:=by grind[ld,iD]
def alo(o:Option (V×St))(K:V->St->Prop):Prop:=match o with|some (v,σ)=>K v σ|none=>False
@[congr] theorem aqo {o o' : Option (V×St)} {K:V→St→Prop} (h:o=o'):alo o K=alo o' K:=by rw [h]
def adF(v:V)(σ:St)(K:V->St->Prop):alo (some (v,σ)) K=K v σ:=rfl
def agJ(ty gy bytes:Nat)(s x:V)(σ:St):Option (V×St):=
 match x with
 |.c .aV=>qx ty gy bytes s 0 [] σ
 |.c (.sl b o m _)=>bif Nat.beq m 0 then qx ty gy bytes s 0 [] σ else match σ.h b with
  |some k=>bif k.rd&&(Nat.beq ((k.cells.drop o).take (m*gy)).length (m*gy)&&((k.cells.drop o).take (m*gy)).all B.kn)then qx ty gy bytes s m ((k.cells.drop o).take (m*gy)) σ else none
  |none=>none
 |_=>none
def atT(E:Env)(tm:Tr V)(σ:St)(K:V->St->Prop)(ty gy bytes:Nat)(s x:O):wpOp E (.app ty gy bytes s x) tm σ K=alo (agJ ty gy bytes (s.ev tm) (x.ev tm) σ) K:=by rfl
def adG(ty gy bytes:Nat)(s:V)(σ:St):agJ ty gy bytes s (.c .aV) σ=qx ty gy bytes s 0 [] σ:=rfl
def agK(ty gy bytes:Nat)(s:V)(b o:Nat)(c:Cap)(σ:St):agJ ty gy bytes s (.c (.sl b o 0 c)) σ=qx ty gy bytes s 0 [] σ:=rfl
def alp(ty gy bytes:Nat)(s:V)(b o m:Nat)(c:Cap)(σ:St)(hm:0<m):agJ ty gy bytes s (.c (.sl b o m c)) σ=match σ.h b with
  |some k=>bif k.rd&&(Nat.beq ((k.cells.drop o).take (m*gy)).length (m*gy)&&((k.cells.drop o).take (m*gy)).all B.kn)then qx ty gy bytes s m ((k.cells.drop o).take (m*gy)) σ else none
  |none=>none:=by
 grind[agJ,Nb]
variable {ty gy bytes n m:Nat} {news:List B} {h:Tr Bk} {nx b:Nat}
def Qo(h1:0<m)(h2:0<gy)(h3:m*bytes<=140737488355328)(h4:m<=1073741824):qx ty gy bytes (.c .aV) m news ⟨h,nx⟩=some (.c (.sl nx 0 m .opn),⟨hset h nx ⟨news,some (gy,ty)⟩,nx+1⟩):=by grind[qx,Nb,ES,vI,jL]
def apK(ty gy bytes n m:Nat)(news:List B)(b:Nat)(h:Tr Bk)(nx:Nat)(k:Option Bk):Option (V×St):=match k with
 |some ⟨cells,some (e,t)⟩=>bif Nat.blt 0 e&&Nat.beq 0 0&&(Nat.beq e gy&&(Nat.beq t ty&&(Nat.ble ((n+m)*bytes) 140737488355328&&(Nat.ble (n+m) 1073741824&&Nat.ble (n*gy) cells.length))))then
   some (.c (.sl nx 0 (n+m) .opn),⟨hset (hdel h b) nx ⟨cells.take (n*gy)++news,some (gy,ty)⟩,nx+1⟩)else none
 |_=>none
def agL(h1:0<m):qx ty gy bytes (.c (.sl b 0 n .opn)) m news ⟨h,nx⟩=apK ty gy bytes n m news b h nx (h b):=by
 unfold qx apK;dsimp only;rw[Nb (by omega:m≠0)];simp only[fo];split
 .next cells e t hk=>
  rw[hk];dsimp only;cases(Nat.blt 0 e&&Nat.beq 0 0&&(Nat.beq e gy&&(Nat.beq t ty&&(Nat.ble ((n+m)*bytes) 140737488355328&&(Nat.ble (n+m) 1073741824&&Nat.ble (n*gy) cells.length)))))with
  |false=>rfl
  |true=>
   simp only[cC,Tr.put,jL,qw]
   rfl
 simp
def Ws{cells:List B}(h2:0<gy)(h3:(n+m)*bytes<=140737488355328)(h4:n+m<=1073741824)(h5:n*gy<=cells.length):apK ty gy bytes n m news b h nx (some ⟨cells,some (gy,ty)⟩)=some (.c (.sl nx 0 (n+m) .opn),⟨hset (hdel h b) nx ⟨cells.take (n*gy)++news,some (gy,ty)⟩,nx+1⟩):=by simp_all[apK,ES,vI]
def adH(b o n:Nat)(σ:St):qx ty gy bytes (.c (.sl b o n (.ex n))) 0 news σ=some (.c (.sl b o n (.ex n)),σ):=by simp_all[qx,vI]
def agM(b o n:Nat)(σ:St):qx ty gy bytes (.c (.sl b o n .any)) 0 news σ=some (.c (.sl b o n .any),σ):=rfl
def Zn(σ:St)(h1:0<m)(h2:0<gy)(h3:m*bytes<=140737488355328)(h4:m<=1073741824):qx ty gy bytes (.c .aV) m news σ=some (.c (.sl σ.aj 0 m .opn),⟨hset σ.h σ.aj ⟨news,some (gy,ty)⟩,σ.aj+1⟩):=Qo h1 h2 h3 h4
def Zo(σ:St):qx ty gy bytes (.c .aV) 0 news σ=some (.c .aV,σ):=rfl
def Qp(σ:St)(h1:0<m):qx ty gy bytes (.c (.sl b 0 n .opn)) m news σ=apK ty gy bytes n m news b σ.h σ.aj (σ.h b):=agL h1
def Zp{σ:St}(hb:σ.h b=some ⟨[],none⟩)(h1:0<m)(h2:0<gy)(h3:m*bytes<=140737488355328)(h4:m<=1073741824):qx ty gy bytes (.c (.sl b 0 0 (.ex 0))) m news σ=some (.c (.sl σ.aj 0 m .opn),⟨hset σ.h σ.aj ⟨news,some (gy,ty)⟩,σ.aj+1⟩):=by unfold qx;dsimp only;rw[Nb (by omega:m≠0),hb];simp only[fo,Bk.rd,il,cI,et,ES h2,cP,ES h1,vI h3,vI h4,List.length_nil,dT,cC,jL,qw,gz,List.nil_append,Bool.true_and,cD];rfl
def Fr.nH{σ:St}{h:Tr Bk}{n b:Nat}(hf:Fr σ ⟨h,n⟩)(h1:σ.aj<=b):Fr σ ⟨hdel h b,n⟩:=
 ⟨hf.le,λj hj=>by
  show hdel h b j=none;rw[Tm];split
  .rfl
  .exact hf.wf j hj,λj hj=>by
  show hdel h b j=_;rw[iD _ _ _ jb];exact hf.old j hj⟩
def aT.nH{ex:List Nat}{σ:St}{h:Tr Bk}{n b:Nat}(hf:aT ex σ ⟨h,n⟩)(h1:σ.aj<=b\/b∈ex):aT ex σ ⟨hdel h b,n⟩:=
 ⟨hf.le,λj hj=>by
  show hdel h b j=none;rw[Tm];split
  .rfl
  .exact hf.wf j hj,λj hj hx=>by
  show hdel h b j=_;rw[iD _ _ _ (λe=>by grind)];exact hf.old j hj hx⟩
def aU:Nat->Nat->B
 |0,_=>.aV
 |n+1,b=>.sl b 0 (n+1) .opn
def kG:Nat->Tr Bk->Nat->Tr Bk
 |0,h,_=>h
 |_+1,h,b=>hdel h b
def xO:Nat->Tr Bk->Nat->Option Bk
 |0,_,_=>none
 |_+1,h,b=>h b
def gF(n:Nat)(G:Nat->List B)(e ty:Nat):Option Bk:=match n with
 |0=>none
 |n+1=>some ⟨bK (n+1) G,some (e,ty)⟩
def LG(G:Nat->List B)(e:Nat):Prop:=∀j,(G j).length=e
def apF(ty gy bytes n m:Nat)(news:List B)(b:Nat)(h:Tr Bk)(nx:Nat)(k:Option Bk):Option (V×St):=match n with
 |0=>qx ty gy bytes (.c .aV) m news ⟨h,nx⟩
 |n+1=>apK ty gy bytes (n+1) m news b h nx k
theorem Ky(n b:Nat):(aU n b).kn=true:=by cases n<;>rfl
def Wu(n b:Nat):lenV (.c (aU n b))=some (.c (.int .i64 (.ofNat n))):=by cases n<;>rfl
theorem gW(n:Nat)(h:Tr Bk)(b j:Nat)(e:n=0\/j≠b):kG n h b j=h j:=by
 cases n with
 |zero=>rfl
 |succ n=>exact iD _ _ _ jb
def alq(k:Nat)(h:Tr Bk)(b j o n:Nat)(g:Bool)(e:k=0\/j≠b):ld (kG k h b) j o n g=ld h j o n g:=by grind[ld,gW]
theorem vT{n:Nat}{h h':Tr Bk}{b:Nat}(e:n=0\/h' b=h b):xO n h' b=xO n h b:=by
 cases n with
 |zero=>rfl
 |succ n=>exact e.resolve_left jb
def agN(n:Nat)(h:Tr Bk)(j b:Nat)(k:Bk)(e:n=0\/b≠j):xO n (hset h j k) b=xO n h b:=vT (by grind[au])
def agO(σ:St)(h1:0<m):qx ty gy bytes (.c (aU n b)) m news σ=apF ty gy bytes n m news b σ.h σ.aj (xO n σ.h b):=by
 cases n with
 |zero=>rfl
 |succ n=>exact Qp σ h1
def aqp{G:Nat->List B}(h1:0<m)(h2:0<gy)(h3:(n+m)*bytes<=140737488355328)(h4:n+m<=1073741824)(hG:LG G gy):apF ty gy bytes n m news b h nx (gF n G gy ty)=some (.c (.sl nx 0 (n+m) .opn),⟨hset (kG n h b) nx ⟨bK n G++news,some (gy,ty)⟩,nx+1⟩):=by
 cases n with
 |zero=>
  rw[cP]at h3 h4⊢
  exact Qo h1 h2 h3 h4
 |succ n=>
  show apK ty gy bytes (n+1) m news b h nx (some ⟨bK (n+1) G,some (gy,ty)⟩)=_
  rw[Ws h2 h3 h4 (by rw[qF hG];omega),<-qF (n:=n+1) hG,ck]
  rfl
def Fr.kG{σ:St}{h:Tr Bk}{n b k:Nat}(hf:Fr σ ⟨h,n⟩)(h1:k=0\/σ.aj<=b):Fr σ ⟨Xe.kG k h b,n⟩:=by
 cases k with
 |zero=>exact hf
 |succ k=>exact Fr.nH hf jb
def aT.kG{ex:List Nat}{σ:St}{h:Tr Bk}{n b k:Nat}(hf:aT ex σ ⟨h,n⟩)(h1:σ.aj<=b\/b∈ex):aT ex σ ⟨Xe.kG k h b,n⟩:=by
 cases k with
 |zero=>exact hf
 |succ k=>exact aT.nH hf h1
attribute [go_sem] Ky Wu gW alq agN agO aqp
def Fr.up{σ σ':St}{n:Nat}(hf:Fr σ σ')(hn:σ'.aj<=n):Fr σ ⟨σ'.h,n⟩:=⟨aw hf.le hn,λb hb=>hf.wf b (aw hn hb),hf.old⟩
def Fr.oh{σ:St}{h:Tr Bk}{n n':Nat}{k:Bk}(hf:Fr σ ⟨h,n⟩)(hn:n<n'):Fr σ ⟨hset h n k,n'⟩:=Fr.up (Fr.new1 hf) hn
theorem fr{σ σ':St}(h:Fr σ σ':=by repeat(first|assumption|exact Fr.refl (by assumption)|exact Fr.up (by assumption) kf|exact Fr.up (Fr.refl (by assumption)) kf|refine Fr.set1 ?_ kf kf|refine Fr.kG ?_ kf|refine Fr.nH ?_ kf|refine Fr.oh ?_ kf)):Fr σ σ':=h
def aT.up{ex:List Nat}{σ σ':St}{n:Nat}(hf:aT ex σ σ')(hn:σ'.aj<=n):aT ex σ ⟨σ'.h,n⟩:=⟨aw hf.le hn,λb hb=>hf.wf b (aw hn hb),hf.old⟩
def aT.oh{ex:List Nat}{σ:St}{h:Tr Bk}{n n':Nat}{k:Bk}(hf:aT ex σ ⟨h,n⟩)(hn:n<n'):aT ex σ ⟨hset h n k,n'⟩:=aT.up (aT.new1 hf) hn
def aC.st{E:Env}{f:Nat}{args:List V}{σ:St}{K:V->St->Prop}(P:St->Prop)(h:P σ)(h2:P σ->aC E f args σ K):aC E f args σ K:=h2 h
def bH.st{E:Env}{c:AC}{tm:Tr V}{σ:St}{Q:AX->Tr V->St->Prop}(P:St->Prop)(h:P σ)(h2:P σ->bH E c tm σ Q):bH E c tm σ Q:=h2 h
theorem Qq{e:Nat}{l:List B}:∀{n:Nat}{o:Nat}{G:Nat->List B},(∀i,i<n->yY l (o+i*e) e true=some (.agg (G i)))->(l.drop o).take (n*e)=bK n G/\(bK n G).length=n*e/\(bK n G).all B.kn=true
 |0,o,G,_=>by rw[il,cI];exact⟨rfl,rfl,rfl⟩
 |n+1,o,G,h=>by
  have h0:=h 0 jb;rw[il,cD]at h0;unfold yY at h0;dsimp only at h0;cases hx:(Nat.beq ((l.drop o).take e).length e&&((l.drop o).take e).all B.kn)with
  |false=>grind
  |true=>
   rw[hx]at h0
   have e0:(l.drop o).take e=G 0:=by grind
   rw[af]at hx
   have hl:=ap hx.1
   obtain⟨h1,h2,h3⟩:=Qq (o:=o+e) (n:=n) (G:=λi=>G (i+1)) λi hi=>by have:=h (i+1) jb;rw[cB,fj (i*e),<-Nat.add_assoc]at this;exact this
   refine⟨?_,?_,?_⟩
   .unfold bK
    rw[<-e0,<-h1,<-List.drop_drop,cB,fj (n*e),List.take_add]
   .unfold bK
    rw[aD,h2,<-e0,hl,cB,fj]
   .unfold bK
    rw[List.all_append,h3,<-e0,hx.2];rfl
def Qr{h:Tr Bk}{e b o n:Nat}{G:Nat->List B}(hn:0<n)(hl:∀i,i<n->ld h b (o+i*e) e true=some (.agg (G i))):∃k,h b=some k/\k.rd=true/\(k.cells.drop o).take (n*e)=bK n G/\(bK n G).length=n*e/\(bK n G).all B.kn=true:=by grind[Go.Proofs.Xe.ld,Go.Proofs.Xe.Qq]
def adI(n:Nat)(f:Nat->Rat):(bU n f).take (n*3)=bU n f:=by grind[Nh]
def adJ(n:Nat)(g:Nat->B):(ones n g).take (n*1)=ones n g:=by grind[Nj]
def agP(n:Nat)(f:Nat->Rat):n*3<=(bU n f).length:=by grind[Nh]
def alr(h1:0<m)(h2:0<gy)(h3:m*bytes<=140737488355328)(h4:m<=1073741824):qx ty gy bytes (.c (.sl b 0 0 (.ex 0))) m news ⟨hset h b ⟨[],none⟩,nx⟩=some (.c (.sl nx 0 m .opn),⟨hset (hset h b ⟨[],none⟩) nx ⟨news,some (gy,ty)⟩,nx+1⟩):=Zp (aA _ _ _) h1 h2 h3 h4
def Zq:∀{n:Nat}{G:Nat->List B},(∀j,(G j).all B.kn=true)->(bK n G).all B.kn=true
 |0,_,_=>rfl
 |n+1,G,h=>by unfold bK;rw[List.all_append,h 0,Zq λj=>h (j+1)];rfl
def als(n:Nat)(f:Nat->Rat):(bU n f).all B.kn=true:=Zq λ_=>rfl
def atU:((Int.ofNat 1:Int):Rat)=1:=rfl
def atV:((Int.ofNat 0:Int):Rat)=0:=rfl
attribute [go_sem] alr als Bool.not_true Bool.not_false atU atV iD aqn adF atT adG alp agK agM Zn Zo Qp Ws adH adI adJ Nh Nj adE
end Go.Proofs.Xe
namespace Go.Proofs.Xe
open Go.RowKit Go.Proofs.Ins
def Nk(k:IntKind)(v:V):Option V:=match v with|.c (.int _ n)=>bif IC k n then some (.c (.int k n))else some (.c (.int k (k.wrap n)))|_=>none
def aqr(E:Env)(tm:Tr V)(σ:St)(K:V->St->Prop)(k:IntKind)(x:O):wpOp E (.conv k x) tm σ K=FX (Nk k (x.ev tm)) λv=>K v σ:=iC _ _ _ _ rfl λ_ _ h=>by cases h
def abg{k j:IntKind}{n:Int}(h:k.wrap n=n):Nk k (.c (.int j n))=some (.c (.int k n)):=by grind[Nk]
def aqs(j:IntKind)(a:Nat)(h:a<=9223372036854775807):Nk .i64 (.c (.int j (.ofNat a)))=some (.c (.int .i64 (.ofNat a))):=abg (by grind[IntKind.wrap_i64])
def aqt(j:IntKind)(a:Nat)(h:a<=18446744073709551615):Nk .u64 (.c (.int j (.ofNat a)))=some (.c (.int .u64 (.ofNat a))):=abg (by grind[IntKind.wrap_u64])
def aqu(j:IntKind)(a:Nat):Nk .u16 (.c (.int j (.ofNat a)))=some (.c (.int .u16 (.ofNat (a%65536)))):=by rfl
theorem Cc(op:BinOp)(k:IntKind)(a b:Int):oI op (.c (.int k a)) (.c (.int k b))=SB op k a b:=by unfold oI;simp
def atW(k:IntKind)(a b:Nat)(h:0<b):oI .rem (.c (.int k (.ofNat a))) (.c (.int k (.ofNat b)))=some (.c (.int k (.ofNat (a%b)))):=by grind[Cc,SB,Bd]
def aqv(k:IntKind)(a b:Nat)(h:0<b)(hw:k.wrap (Int.ofNat (a/b))=Int.ofNat (a/b)):oI .quo (.c (.int k (.ofNat a))) (.c (.int k (.ofNat b)))=some (.c (.int k (.ofNat (a/b)))):=by grind[Cc,SB,Bd]
def yc(a b m:Nat)(h:a<=m):a/b<=m:=aw (fS _ _) h
def adK(a b:Nat)(h:0<b)(h2:a<=65535):oI .quo (.c (.int .u16 (.ofNat a))) (.c (.int .u16 (.ofNat b)))=some (.c (.int .u16 (.ofNat (a/b)))):=aqv _ _ _ h (by have:=yc a b _ h2;grind[IntKind.wrap_u16])
def alu(k:IntKind)(a b:Nat)(ha:a<2^k.bits)(hb:b<2^k.bits):(BitVec.ofInt k.bits (Int.ofNat a)&&&BitVec.ofInt k.bits (Int.ofNat b)).toNat=a&&&b:=by grind
def adL(a b:Nat)(ha:a<=9223372036854775807)(hb:b<=9223372036854775807):oI .and (.c (.int .i64 (.ofNat a))) (.c (.int .i64 (.ofNat b)))=some (.c (.int .i64 (.ofNat (a&&&b)))):=by rw[Cc];unfold SB Bd;dsimp only;rw[alu .i64 a b (by show a<18446744073709551616;omega) (by show b<18446744073709551616;omega),IntKind.wrap_i64];grind[Nat.and_le_left]
def adM(a b:Nat):oI .add (.c (.int .u16 (.ofNat a))) (.c (.int .u16 (.ofNat b)))=some (.c (.int .u16 (.ofNat ((a+b)%65536)))):=by rfl
def adN(a b:Nat):oI .mul (.c (.int .u16 (.ofNat a))) (.c (.int .u16 (.ofNat b)))=some (.c (.int .u16 (.ofNat (a*b%65536)))):=by rfl
def atX(a b:Nat)(h:a*b<=9223372036854775807):oI .mul (.c (.int .i64 (.ofNat a))) (.c (.int .i64 (.ofNat b)))=some (.c (.int .i64 (.ofNat (a*b)))):=by show mkI .i64 (Int.ofNat a*Int.ofNat b)=_;rw[show Int.ofNat a*Int.ofNat b=Int.ofNat (a*b)from rfl,Tc h]
def atY(k j:IntKind)(a c:Nat):oI .shr (.c (.int k (.ofNat a))) (.c (.int j (.ofNat c)))=some (.c (.int k (.ofNat (a/2^min c k.bits)))):=by
 have e:oI .shr (.c (.int k (.ofNat a))) (.c (.int j (.ofNat c)))=YW .shr k (.ofNat a) (.ofNat c):=by
  unfold oI;dsimp only;by_cases h:k=j
  .subst h;rw[bw rfl];rfl
  grind
 rw[e];unfold YW;grind
def agQ:IntKind.bits .i64=64:=rfl
def agR:IntKind.bits .u16=16:=rfl
def agS:IntKind.bits .u64=64:=rfl
def aqw(k:IntKind)(a b:Int):oI .eql (.c (.int k a)) (.c (.int k b))=some (.c (.bool (decide (a=b)))):=by rw[Cc];rfl
def aqx(k:IntKind)(a b:Int):oI .neq (.c (.int k a)) (.c (.int k b))=some (.c (.bool (!decide (a=b)))):=by rw[Cc];rfl
attribute [go_sem] aqr aqs aqt aqu atW adK adL adM adN atX atY agQ agR agS aqw aqx
end Go.Proofs.Xe
end
