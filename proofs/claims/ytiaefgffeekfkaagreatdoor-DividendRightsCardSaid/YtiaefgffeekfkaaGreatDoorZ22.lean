/- The executor: appends. -/
import Derived.Test.YtiaefgffeekfkaaGreatDoorZ21
import Derived.Attr
set_option linter.unusedSimpArgs false
set_option linter.unusedVariables false
namespace Go.Proofs.Xe
open Go.RowKit Go.Proofs.Ins
section
variable {E:Env}
theorem wpOp_of {n:Nat} {op:AOp} {tm:Tr V} {σ σ' : St} {v:V} {K:V→St→Prop} (h:stepO (callF E n) op tm σ=some (v,σ')) (hk:K v σ'):wpOp E op tm σ K:=by
 unfold wpOp
 split
 ·next g args =>
  unfold stepO at h
  simp only [AOp.kind] at h
  split at h
  ·next f a e =>
   unfold stepC at e
   cases hg:g.ev tm with
   | fn f' caps =>
    dsimp only at e
    rw [hg] at e
    obtain ⟨rfl,rfl⟩:=Prod.mk.inj (Option.some.inj e)
    exact ⟨n,v,σ',h,hk⟩
   | _=>dsimp only at e; rw [hg] at e; cases e
  ·cases h
 ·next hne =>
  have e:stepO (fun _ _ _=>none) op tm σ=stepO (callF E n) op tm σ:=by
   unfold stepO
   cases hk2:op.kind with
   | c=>cases op <;> simp only [AOp.kind,reduceCtorEq] at hk2; exact (hne _ _ rfl).elim
   | _=>rfl
  rw [e,h]
  exact hk
theorem wpG_of {n:Nat} {o:AO} {tm:Tr V} {σ σ' : St} {v:V} {K:V→St→Prop} (h:stepG (callF E n) o tm σ=some (v,σ')) (hk:K v σ'):wpG E o tm σ K:=by
 unfold wpG
 unfold stepG at h
 split at h
 ·next e=>rw [e]; exact wpOp_of h hk
 ·next e=>rw [e]; cases h; exact hk
 ·cases h
theorem wpOps_of {n:Nat} : ∀ {l:List AO} {tm tm' : Tr V} {σ σ' : St} {Q:Tr V→St→Prop},runOps (callF E n) l tm σ=some (tm',σ')→Q tm' σ'→wpOps E l tm σ Q
 | [],_,_,_,_,_,h,hq=>by cases h; exact hq
 | o::l,tm,tm',σ,σ',Q,h,hq=>by
  unfold runOps at h
  split at h
  ·next v σ1 e =>
   rw [setT_eq] at h
   exact wpG_of e (wpOps_of h hq)
  ·cases h
theorem wpD_of {n:Nat} {pt:List (List Nat)} {tmE tm0:Tr V} : ∀ {d:Dr} {σ σ' : St} {res:List Rs} {pd:List Pend} {tm' : Tr V} {Q:Tr V→St→Prop},runD (callF E n) pt tmE tm0 d σ res pd=some (tm',σ')→Q tm' σ'→wpD E pt tmE tm0 d σ res pd Q
 | .fin qs,σ,σ',res,pd,tm',Q,h,hq=>by
  unfold runD at h
  unfold wpD
  split at h
  ·next σ1 res1 pd1 e =>
   rw [e]
   dsimp only
   cases hb:pd1.all (again σ1) with
   | false=>rw [hb] at h; cases h
   | true =>
    rw [hb] at h
    simp only [cond_true] at h
    refine ⟨rfl,?_⟩
    split at h
    ·next tm2 e2=>rw [e2]; cases h; exact hq
    ·cases h
  ·cases h
 | .act qs x r,σ,σ',res,pd,tm',Q,h,hq=>by
  unfold runD at h
  unfold wpD
  split at h
  ·next σ1 res1 pd1 e =>
   rw [e]
   dsimp only
   cases hb:pd1.all (again σ1) with
   | false=>rw [hb] at h; cases h
   | true =>
    rw [hb] at h
    simp only [cond_true] at h
    refine ⟨rfl,?_⟩
    split at h
    ·next tm2 e2 =>
     rw [e2]
     dsimp only
     split at h
     ·next v σ2 e3=>exact wpG_of e3 (wpD_of h hq)
     ·cases h
    ·cases h
  ·cases h
end
section
variable (E:Env) (tm:Tr V) (σ:St) (Q:AX→Tr V→St→Prop)
theorem ops_eq (l:List AO):RunX E (.ops l) tm σ Q=wpOps E l tm σ fun tm' σ'=>Q .normal tm' σ':=by
 refine propext ⟨?_,run_ops⟩
 rintro ⟨n,e,tm',σ',h,hq⟩
 cases n with
 | zero=>simp only [exec,reduceCtorEq] at h
 | succ n =>
  simp only [exec,xRes] at h
  split at h
  ·next e2=>cases h; exact wpOps_of e2 hq
  ·cases h
theorem dr_eq (d:Dr) (pt:List (List Nat)) (ds:List Nat):RunX E (.drawn d pt ds) tm σ Q=wpD E pt tm (ersV tm ds) d σ [] [] fun tm' σ'=>Q .normal tm' σ':=by
 refine propext ⟨?_,run_dr⟩
 rintro ⟨n,e,tm',σ',h,hq⟩
 cases n with
 | zero=>simp only [exec,reduceCtorEq] at h
 | succ n =>
  simp only [exec,xDr,xRes,eraseT_eq] at h
  split at h
  ·next e2=>cases h; exact wpD_of e2 hq
  ·cases h
theorem seq_eq (a b:AC):RunX E (.seq a b) tm σ Q=RunX E a tm σ (nxtX E b Q):=by
 refine propext ⟨?_,run_seq⟩
 rintro ⟨n,e,tm',σ',h,hq⟩
 cases n with
 | zero=>simp only [exec,reduceCtorEq] at h
 | succ n =>
  rw [exec] at h
  cases hx:exec E n a tm σ with
  | none=>rw [hx] at h; cases h
  | some q =>
   rw [hx] at h
   obtain ⟨e1,tm1,σ1⟩:=q
   refine ⟨n,e1,tm1,σ1,hx,?_⟩
   cases e1 with
   | normal=>exact ⟨n,e,tm',σ',h,hq⟩
   | exit i=>cases h; exact hq
   | ret=>cases h; exact hq
theorem block_eq (i:Nat) (a:AC):RunX E (.block i a) tm σ Q=RunX E a tm σ (outX i Q):=by
 refine propext ⟨?_,run_block⟩
 rintro ⟨n,e,tm',σ',h,hq⟩
 cases n with
 | zero=>simp only [exec,reduceCtorEq] at h
 | succ n =>
  rw [exec] at h
  cases hx:exec E n a tm σ with
  | none=>rw [hx] at h; cases h
  | some q =>
   rw [hx] at h
   obtain ⟨e1,tm1,σ1⟩:=q
   refine ⟨n,e1,tm1,σ1,hx,?_⟩
   cases e1 with
   | normal=>cases h; exact hq
   | exit j=>cases h; exact hq
   | ret=>cases h; exact hq
theorem skip_eq:RunX E .skip tm σ Q=Q .normal tm σ:=by
 refine propext ⟨?_,run_skip⟩
 rintro ⟨n,e,tm',σ',h,hq⟩
 cases n with
 | zero=>simp only [exec,reduceCtorEq] at h
 | succ n=>rw [exec] at h; cases h; exact hq
theorem exit_eq (i:Nat):RunX E (.exit i) tm σ Q=Q (.exit i) tm σ:=by
 refine propext ⟨?_,run_exit⟩
 rintro ⟨n,e,tm',σ',h,hq⟩
 cases n with
 | zero=>simp only [exec,reduceCtorEq] at h
 | succ n=>rw [exec] at h; cases h; exact hq
theorem ret_eq:RunX E .ret tm σ Q=Q .ret tm σ:=by
 refine propext ⟨?_,run_ret⟩
 rintro ⟨n,e,tm',σ',h,hq⟩
 cases n with
 | zero=>simp only [exec,reduceCtorEq] at h
 | succ n=>rw [exec] at h; cases h; exact hq
def ifV (v:V) (P:Bool→Prop):Prop:=match v with | .c (.bool t)=>P t | _=>False
theorem cond_eq (x:O) (a b:AC):RunX E (.cond x a b) tm σ Q=ifV (x.ev tm) fun t=>RunX E (bif t then a else b) tm σ Q:=by
 refine propext ⟨?_,fun h=>?_⟩
 ·rintro ⟨n,e,tm',σ',h,hq⟩
  cases n with
  | zero=>simp only [exec,reduceCtorEq] at h
  | succ n =>
   simp only [exec,xCond] at h
   split at h
   ·next t e=>rw [e]; exact ⟨n,_,_,_,h,hq⟩
   ·cases h
 ·unfold ifV at h
  split at h
  ·next t e=>exact run_cond e h
  ·exact h.elim
theorem run_bt (a b:AC):RunX E (bif true then a else b) tm σ Q=RunX E a tm σ Q:=rfl
theorem run_bf (a b:AC):RunX E (bif false then a else b) tm σ Q=RunX E b tm σ Q:=rfl
theorem run_bnt (a b:AC):RunX E (bif !true then a else b) tm σ Q=RunX E b tm σ Q:=rfl
theorem run_bnf (a b:AC):RunX E (bif !false then a else b) tm σ Q=RunX E a tm σ Q:=rfl
theorem run_body (n:Nat) (b:AC) (r:List (Nat×Option (Nat×Bool))):RunX E (AF.body ⟨n,b,r⟩) tm σ Q=RunX E b tm σ Q:=rfl
theorem ifV_true (P:Bool→Prop):ifV (.c (.bool true)) P=P true:=rfl
theorem ifV_false (P:Bool→Prop):ifV (.c (.bool false)) P=P false:=rfl
theorem ifV_not (b:Bool) (P:Bool→Prop):ifV (.c (.bool (!b))) P=ifV (.c (.bool b)) fun t=>P (!t):=rfl
theorem ifV_dec {p:Prop} [Decidable p] {P:Bool→Prop} (h1:p→P true) (h2 : ¬ p→P false):ifV (.c (.bool (decide p))) P:=by
 show P (decide p)
 by_cases h:p
 ·rw [decide_eq_true h]; exact h1 h
 ·rw [decide_eq_false h]; exact h2 h
def tick:Prop:=∀ n:Nat,n=n
theorem tick_true:tick=True:=propext ⟨fun _=>trivial,fun _ _=>rfl⟩
@[congr] theorem ifV_congr {z:Prop} {v v' : V} {P:Bool→Prop} (hz:tick=z) (h:v=v'):ifV v P=ifV v' P:=by rw [h]
@[congr] theorem onV_congr {z:Prop} {v v' : Option V} {P:V→Prop} (hz:tick=z) (h:v=v'):onV v P=onV v' P:=by rw [h]
@[congr] theorem RunX_congr {z:Prop} {c:AC} {tm tm' : Tr V} {σ σ' : St} {Q:AX→Tr V→St→Prop} (hz:tick=z) (h:tm=tm') (h2:σ=σ'):RunX E c tm σ Q=RunX E c tm' σ' Q:=by rw [h,h2]
@[congr] theorem wpOps_congr {z:Prop} {c:List AO} {tm tm' : Tr V} {σ σ' : St} {Q:Tr V→St→Prop} (hz:tick=z) (h:tm=tm') (h2:σ=σ'):wpOps E c tm σ Q=wpOps E c tm' σ' Q:=by rw [h,h2]
@[congr] theorem wpG_congr {z:Prop} {c:AO} {tm tm' : Tr V} {σ σ' : St} {Q:V→St→Prop} (hz:tick=z) (h:tm=tm') (h2:σ=σ'):wpG E c tm σ Q=wpG E c tm' σ' Q:=by rw [h,h2]
@[congr] theorem wpOp_congr {z:Prop} {c:AOp} {tm tm' : Tr V} {σ σ' : St} {Q:V→St→Prop} (hz:tick=z) (h:tm=tm') (h2:σ=σ'):wpOp E c tm σ Q=wpOp E c tm' σ' Q:=by rw [h,h2]
@[congr] theorem CallX_congr {z:Prop} {f:Nat} {a a' : List V} {σ σ' : St} {Q:V→St→Prop} (hz:tick=z) (h:a=a') (h2:σ=σ'):CallX E f a σ Q=CallX E f a' σ' Q:=by rw [h,h2]
@[congr] theorem wpQ_congr {z:Prop} {tmE tm0:Tr V} {qs:List DO} {σ σ' : St} {res res' : List Rs} {pd pd' : List Pend} {K:St→List Rs→List Pend→Prop} (hz:tick=z) (h2:σ=σ') (h3:res=res') (h4:pd=pd'):wpQ tmE tm0 qs σ res pd K=wpQ tmE tm0 qs σ' res' pd' K:=by rw [h2,h3,h4]
@[congr] theorem wpD_congr {z:Prop} {pt:List (List Nat)} {tmE tm0:Tr V} {d:Dr} {σ σ' : St} {res res' : List Rs} {pd pd' : List Pend} {K:Tr V→St→Prop} (hz:tick=z) (h2:σ=σ') (h3:res=res') (h4:pd=pd'):wpD E pt tmE tm0 d σ res pd K=wpD E pt tmE tm0 d σ' res' pd' K:=by rw [h2,h3,h4]
@[congr] theorem agn_congr {z:Prop} {σ σ' : St} {pd pd' : List Pend} (hz:tick=z) (h:σ=σ') (h2:pd=pd'):agn σ pd=agn σ' pd':=by rw [h,h2]
@[congr] theorem Pend_congr {z:Prop} {i i' : Nat} {o:AO} {tm:Tr V} {v:V} {g:Bool} {nm:Option Nat} (hz:tick=z) (h:i=i'):Pend.mk i o tm v g nm=Pend.mk i' o tm v g nm:=by rw [h]
@[congr] theorem again_congr {z:Prop} {σ σ' : St} {p:Pend} (hz:tick=z) (h:σ=σ'):again σ p=again σ' p:=by rw [h]
@[congr] theorem tmI_congr {z:Prop} {tmE tm0:Tr V} {res:List Rs} {us us' os:List Nat} (hz:tick=z) (h:us=us'):tmI tmE tm0 res us os=tmI tmE tm0 res us' os:=by rw [h]
@[congr] theorem tmOf_congr {z:Prop} {tm0:Tr V} {res:List Rs} {us us' : List Nat} (hz:tick=z) (h:us=us'):tmOf tm0 res us=tmOf tm0 res us':=by rw [h]
@[congr] theorem fnd_congr {z:Prop} {res:List Rs} {u u' : Nat} (hz:tick=z) (h:u=u'):fnd res u=fnd res u':=by rw [h]
@[congr] theorem oldOf_congr {z:Prop} {tmE tm:Tr V} {os os' : List Nat} (hz:tick=z) (h:os=os'):oldOf tmE tm os=oldOf tmE tm os':=by rw [h]
@[congr] theorem gsel_congr {z:Prop} {g:Option (Nat×Bool)} {tm:Tr V} {A B:Prop} (hz:tick=z):gsel g tm A B=gsel g tm A B:=rfl
@[congr] theorem gsV_congr {z:Prop} {v v' : V} {b:Bool} {A B:Prop} (hz:tick=z) (h:v=v'):gsV v b A B=gsV v' b A B:=by rw [h]
@[congr] theorem qR_congr {z:Prop} {g:Option (Nat×Bool)} {tmE tm0:Tr V} {res:List Rs} {us os:List Nat} {σ:St} {pd:List Pend} {i:Nat} {d:Option Nat} {op:AOp} {l:List DO} {K:St→List Rs→List Pend→Prop} (hz:tick=z):qR g tmE tm0 res us os σ pd i d op l K=qR g tmE tm0 res us os σ pd i d op l K:=rfl
theorem wpG_sel (E:Env) (d:Option Nat) (g:Option (Nat×Bool)) (op:AOp) (tm:Tr V) (σ:St) (K:V→St→Prop):wpG E ⟨d,g,op⟩ tm σ K=gsel g tm (wpOp E op tm σ K) (K .tnil σ):=rfl
theorem mov_on (x:O) (K:V→St→Prop):wpOp E (.mov x) tm σ K=onV (some (x.ev tm)) fun v=>K v σ:=rfl
theorem nxtX_n (b:AC):nxtX E b Q .normal tm σ=RunX E b tm σ Q:=rfl
theorem nxtX_e (b:AC) (i:Nat):nxtX E b Q (.exit i) tm σ=Q (.exit i) tm σ:=rfl
theorem nxtX_r (b:AC):nxtX E b Q .ret tm σ=Q .ret tm σ:=rfl
theorem outX_n (i:Nat):outX i Q .normal tm σ=Q .normal tm σ:=rfl
theorem outX_e (i j:Nat):outX i Q (.exit j) tm σ=Q (bif Nat.beq j i then .normal else .exit j) tm σ:=rfl
theorem outX_r (i:Nat):outX i Q .ret tm σ=Q .ret tm σ:=rfl
variable (I:Nat→Tr V→St→Prop) (m:Nat) (res:List (Nat×Option (Nat×Bool))) (K:V→St→Prop)
theorem agnX_n:agnX I m Q .normal tm σ = ∃ m',m' < m∧I m' tm σ:=rfl
theorem agnX_e (i:Nat):agnX I m Q (.exit i) tm σ=Q (.exit i) tm σ:=rfl
theorem agnX_r:agnX I m Q .ret tm σ=Q .ret tm σ:=rfl
theorem endX_on:endX res K .normal tm σ=onV (result tm σ res) fun v=>K v σ:=by
 unfold endX onV
 cases hr:result tm σ res <;> simp [hr]
theorem endX_r:endX res K .ret tm σ=onV (result tm σ res) fun v=>K v σ:=by
 unfold endX onV
 cases hr:result tm σ res <;> simp [hr]
end
theorem cmp_lt (p q:Rat):decide (cmpR p q<0)=decide (p<q):=by
 by_cases h:p<q
 ·rw [decide_eq_true h,decide_eq_true]; exact cmpR_lt_zero.mpr h
 ·rw [decide_eq_false h,decide_eq_false]; exact fun e=>h (cmpR_lt_zero.mp e)
theorem get_same (tm:Tr V) (d:Nat) (v:V):Tr.get (setV tm (some d) v) d=some v:=by unfold setV; dsimp only; rw [Tr.get_set,if_pos rfl]
theorem get_ne (tm:Tr V) (d j:Nat) (v:V) (h:j≠d):Tr.get (setV tm (some d) v) j=Tr.get tm j:=by
 unfold setV
 dsimp only
 rw [Tr.get_set,if_neg h]
theorem get_ers (tm:Tr V) (ds:List Nat) (j:Nat) (h:ds.contains j=false):Tr.get (ersV tm ds) j=Tr.get tm j:=ers_get tm j ds h
theorem getRes_nil (tm:Tr V) (σ:St):getRes tm σ []=some .tnil:=rfl
theorem getRes_n (tm:Tr V) (σ:St) (t:Nat) (r:List (Nat×Option (Nat×Bool))):getRes tm σ ((t,none)::r)=match tm.get t,getRes tm σ r with | some v,some w=>some (.tcons v w) | _,_=>none:=rfl
theorem getRes_l (tm:Tr V) (σ:St) (t n:Nat) (g:Bool) (r:List (Nat×Option (Nat×Bool))):getRes tm σ ((t,some (n,g))::r)=match (match tm.getV t with | .c (.ptr b o)=>ld σ.h b o n g | _=>none),getRes tm σ r with | some v,some w=>some (.tcons v w) | _,_=>none:=rfl
theorem Fr.new1 {σ:St} {h:Tr Bk} {n:Nat} {k:Bk} (hf:Fr σ ⟨h,n⟩):Fr σ ⟨hset h n k,n+1⟩:=Fr.new hf k
theorem Fr.set1 {σ:St} {h:Tr Bk} {n b:Nat} {k:Bk} (hf:Fr σ ⟨h,n⟩) (h1:σ.nxt≤b) (h2:b<n):Fr σ ⟨hset h b k,n⟩:=Fr.set hf h1 h2 k
theorem ld_blk {h:Tr Bk} {b:Nat} {k:Bk} (e:h b=some k) (o n:Nat) (g:Bool):ld h b o n g=bif k.rd then rdC k.cells o n g else none:=by unfold ld; rw [e]
theorem sto_blk {h:Tr Bk} {b:Nat} {k:Bk} (e:h b=some k) (o:Nat) (vs:List B):sto h b o vs=match bif k.pl then wrC k.cells o vs else none with | some l=>some (hset h b ⟨l,k.opn⟩) | none=>none:=by unfold sto; rw [e]; rfl
def plo (o:Option (Nat×Nat)):Bool:=match o with | some (0,_)=>false | _=>true
def rdo (o:Option (Nat×Nat)):Bool:=match o with | some (0,t)=>Nat.beq t 1 | _=>true
theorem pl_plo (k:Bk):k.pl=plo k.opn:=rfl
theorem rd_rdo (k:Bk):k.rd=rdo k.opn:=rfl
theorem plo_none:plo none=true:=rfl
theorem rdo_none:rdo none=true:=rfl
theorem plo_s (e t:Nat) (h:e≠0):plo (some (e,t))=true:=by cases e with | zero=>exact (h rfl).elim | succ e=>rfl
theorem rdo_s (e t:Nat) (h:e≠0):rdo (some (e,t))=true:=by cases e with | zero=>exact (h rfl).elim | succ e=>rfl
theorem rdo_z:rdo (some (0,1))=true:=rfl
theorem kn_int (k:IntKind) (n:Int):B.kn (.int k n)=true:=rfl
theorem kn_bool (b:Bool):B.kn (.bool b)=true:=rfl
theorem kn_str (s:ByteArray):B.kn (.str s)=true:=rfl
theorem kn_ptr (b o:Nat):B.kn (.ptr b o)=true:=rfl
theorem kn_nilp:B.kn .nilp=true:=rfl
theorem kn_sl (b o n:Nat) (c:Cap):B.kn (.sl b o n c)=true:=rfl
theorem kn_nils:B.kn .nils=true:=rfl
theorem kn_mp (b:Nat):B.kn (.mp b)=true:=rfl
theorem HL.kn {h:Tr Bk} {e:Nat} {v:B} {n:Nat} {G:Nat→List B} (hl:HL h e v n G):v.kn=true:=by
 rcases hl with ⟨-,rfl⟩ | ⟨b,o,c,rfl,-⟩ <;> rfl
theorem HC.kn {h:Tr Bk} {v:B} {n:Nat} {G:Nat→B} (hl:HC h v n G):v.kn=true:=by
 rcases hl with ⟨-,rfl⟩ | ⟨b,o,c,rfl,-⟩ <;> rfl
theorem rdC_t (x:B) (l:List B) (o n:Nat):rdC (x::l) o n true=bif Nat.beq (((x::l).drop o).take n).length n && (((x::l).drop o).take n).all B.kn then some (.agg (((x::l).drop o).take n)) else none:=rfl
theorem rdC_f (x:B) (l:List B) (o n:Nat):rdC (x::l) o n false=match (x::l).drop o with | x::_=>bif x.kn then some (.c x) else none | []=>none:=rfl
theorem wrC_z (x:B) (l vs:List B):wrC (x::l) 0 vs=bif Nat.ble vs.length (x::l).length then some (vs ++ (x::l).drop vs.length) else none:=by rw [wrC]
theorem wrC_s (x:B) (l:List B) (o:Nat) (vs:List B):wrC (x::l) (o+1) vs=match wrC l o vs with | some r=>some (x::r) | none=>none:=by rw [wrC]; rfl
theorem eq_ofNat (a b:Nat):(Int.ofNat a=Int.ofNat b)=(a=b):=propext ⟨Int.ofNat.inj,fun e=>by rw [e]⟩
theorem eq_neg (a b:Nat):(Int.ofNat a=Int.negSucc b)=False:=by simp
theorem neg_eq (a b:Nat):(Int.negSucc b=Int.ofNat a)=False:=by simp
theorem dec_T [h:Decidable True] : @decide True h=true:=by simp
theorem dec_F [h:Decidable False] : @decide False h=false:=by simp
attribute [go_sem] tick_true run_bnt run_bnf run_bt run_bf run_body wpOps_nil wpOps_cons onV_some o_pick o_load o_faddr o_field o_iaddr iaV_sl o_ext qext_V extV_0 extV_1 extV_2 o_bin b_lss b_gtr b_leq b_geq b_eql b_neq b_seql b_sneq b_add b_sub o_eqb o_eqagg eqB_rat o_nil nilV o_not o_build fillB o_mkfn evBs o_len lenV_sl lenV_nils o_nchk o_alloc o_box o_mksl asN rep o_bsl o_store o_call ev_t ev_k getV_same getV_ne setV_none getV_ini0 getV_ini1 getV_ini2 getV_ini3 getV_ini4 getV_ini5 getV_ini6 getV_ini7 V.cells ld_same ld_ne sto_same sto_ne hset_get bc_t bc_f List.all_cons List.all_nil Bool.and_true Bool.true_and List.drop_succ_cons List.drop_zero List.take_succ_cons List.take_zero List.length_cons List.length_nil Nat.reduceAdd Nat.zero_add Nat.add_zero beq_s beq_n ble_t blt_t hset_ne List.append_nil List.nil_append List.cons_append List.map_cons List.map_nil result qload_ld lt_ofNat wpD_fin wpD_act wpQ_nil dq_mov dq_pick dq_load dq_faddr dq_field dq_iaddr dq_ext dq_bin dq_eqb dq_eqagg dq_nil dq_not dq_conv dq_build dq_mkfn dq_len dq_slice dq_nchk dq_min2 wpQ_alloc wpQ_box wpQ_bsl tmI_eq tmOf_nil tmOf_cons tmO_some fnd_hit fnd_miss oldOf_nil oldOf_cons finT_nil finT_cons getV_ers agn_nil agn_cons da_mov da_pick da_faddr da_field da_iaddr da_ext da_bin da_eqb da_eqagg da_nil da_not da_conv da_build da_mkfn da_len da_slice da_nchk da_min2 again_load again_alloc again_box again_bsl eqV_agg eqV_c eqBs_s fltP List.contains_cons List.contains_nil Nat.reduceBEq Bool.or_false Bool.or_true Bool.false_or Bool.true_or cond_true cond_false List.getD_cons_zero List.getD_cons_succ true_and and_true wpG_sel gsel_n gsel_s gsV_tt gsV_tf gsV_ft gsV_ff gsV_nil qR_eq again_f mov_on ops_eq dr_eq seq_eq block_eq skip_eq exit_eq ret_eq cond_eq ifV_true ifV_false ifV_not nxtX_n nxtX_e nxtX_r outX_n outX_e outX_r agnX_n agnX_e agnX_r endX_on endX_r cmp_lt kn_int kn_bool kn_str kn_ptr kn_nilp kn_sl kn_nils kn_mp rdC_t rdC_f wrC_z wrC_s eq_ofNat eq_neg neg_eq dec_T dec_F pl_plo rd_rdo plo_none rdo_none plo_s rdo_s rdo_z get_same get_ne get_ers getRes_nil getRes_n getRes_l x_lWhole x_lAmount
/-! ### Blocks of n elements -/
def celR:Nat→(Nat→List B)→List B
 | 0,_=>[]
 | n+1,G=>G 0 ++ celR n fun i=>G (i+1)
theorem cel_drop {e:Nat} : ∀ {n:Nat} {G:Nat→List B} {i:Nat},(∀ j,(G j).length=e)→i<n→∃ r,(celR n G).drop (i*e)=G i ++ r
 | 0,_,_,_,h=>by omega
 | n+1,G,0,_,_=>⟨celR n fun i=>G (i+1),by rw [Nat.zero_mul]; rfl⟩
 | n+1,G,i+1,hG,h=>by
  obtain ⟨r,hr⟩:=cel_drop (G:=fun i=>G (i+1)) (i:=i) (fun j=>hG (j+1)) (by omega:i<n)
  refine ⟨r,?_⟩
  show (G 0 ++ celR n fun i=>G (i+1)).drop _=_
  rw [Nat.succ_mul,Nat.add_comm,← hG 0,List.drop_length_add_append,hG 0]
  exact hr
theorem rd_cel {e n i k m:Nat} {G:Nat→List B} (g:Bool) (hG : ∀ j,(G j).length=e) (h:i<n) (hk:k+m≤e) (hm:0<m):rdC (celR n G) (i*e+k) m g=rdC (G i) k m g:=by
 obtain ⟨r,hr⟩:=cel_drop hG h
 have hd:(celR n G).drop (i*e+k)=(G i).drop k ++ r:=by
  rw [← List.drop_drop,hr,List.drop_append_of_le_length (by rw [hG]; omega)]
 have hl:((G i).drop k).length=e - k:=by rw [List.length_drop,hG]
 unfold rdC
 cases g with
 | true =>
  dsimp only
  rw [hd,List.take_append_of_le_length (by omega)]
 | false =>
  dsimp only
  rw [hd]
  cases hx:(G i).drop k with
  | nil=>rw [hx] at hl; simp at hl; omega
  | cons x l=>rfl
theorem wr_app : ∀ (p:List B) (l:List B) (o:Nat) (vs:List B),wrC (p ++ l) (p.length+o) vs=match wrC l o vs with | some r=>some (p ++ r) | none=>none
 | [],l,o,vs=>by
  rw [List.nil_append,List.length_nil,Nat.zero_add]
  cases wrC l o vs <;> rfl
 | x::p,l,o,vs=>by
  rw [List.cons_append,List.length_cons,show p.length+1+o=(p.length+o)+1 by omega,wrC,wr_app p l o vs]
  cases wrC l o vs <;> rfl
theorem wr_left : ∀ (p:List B) (l:List B) (o:Nat) (vs:List B),o+vs.length≤p.length→wrC (p ++ l) o vs=match wrC p o vs with | some r=>some (r ++ l) | none=>none
 | p,l,0,vs,h=>by
  unfold wrC
  have h:vs.length≤p.length:=by omega
  rw [ble_t h,ble_t (show vs.length≤(p ++ l).length by rw [List.length_append]; omega)]
  dsimp only [cond_true]
  rw [List.drop_append_of_le_length h,List.append_assoc]
 | [],l,o+1,vs,h=>by simp at h
 | x::p,l,o+1,vs,h=>by
  rw [List.cons_append,wrC,wrC,wr_left p l o vs (by simp only [List.length_cons] at h; omega)]
  cases wrC p o vs <;> rfl
def updG (G:Nat→List B) (i:Nat) (r:List B):Nat→List B:=fun j=>if j=i then r else G j
theorem wr_cel {e k:Nat} {vs:List B} : ∀ {n i:Nat} {G:Nat→List B},(∀ j,(G j).length=e)→i<n→k+vs.length≤e→wrC (celR n G) (i*e+k) vs=match wrC (G i) k vs with | some r=>some (celR n (updG G i r)) | none=>none
 | 0,_,_,_,h,_=>by omega
 | n+1,0,G,hG,_,hk=>by
  rw [Nat.zero_mul,Nat.zero_add]
  show wrC (G 0 ++ _) k vs=_
  rw [wr_left _ _ _ _ (by rw [hG]; omega)]
  cases wrC (G 0) k vs <;> rfl
 | n+1,i+1,G,hG,h,hk=>by
  show wrC (G 0 ++ celR n fun i=>G (i+1)) _ vs=_
  rw [show (i+1)*e+k=(G 0).length+(i*e+k) by rw [hG,Nat.succ_mul]; omega,wr_app,wr_cel (fun j=>hG (j+1)) (by omega) hk]
  cases wrC (G (i+1)) k vs with
  | none=>rfl
  | some r =>
   show some _=some _
   congr 1
   show G 0 ++ _=updG G (i+1) r 0 ++ _
   congr 2
   funext j
   unfold updG
   simp only [Nat.add_right_cancel_iff]
theorem cel_congr : ∀ {n:Nat} {G H:Nat→List B},(∀ i,i<n→G i=H i)→celR n G=celR n H
 | 0,_,_,_=>rfl
 | n+1,G,H,h=>by
  unfold celR
  rw [h 0 (by omega),cel_congr fun i hi=>h (i+1) (by omega)]
theorem rep_cel (z:List B) : ∀ n,rep z n=celR n fun _=>z
 | 0=>rfl
 | n+1=>by unfold rep celR; rw [rep_cel z n]
theorem cel_snoc : ∀ (n:Nat) (G:Nat→List B) (r:List B),celR n G ++ r=celR (n+1) (updG G n r)
 | 0,G,r=>by unfold celR updG; simp [celR]
 | n+1,G,r=>by
  rw [celR,List.append_assoc,cel_snoc n _ r]
  show _=updG G (n+1) r 0 ++ celR (n+1) _
  congr 2
  funext j
  unfold updG
  simp only [Nat.add_right_cancel_iff]
theorem cel_len {e:Nat} : ∀ {n:Nat} {G:Nat→List B},(∀ j,(G j).length=e)→(celR n G).length=n*e
 | 0,_,_=>by simp [celR]
 | n+1,G,h=>by
  rw [celR,List.length_append,h,cel_len fun j=>h (j+1),Nat.succ_mul]; omega
theorem ld_sub {h:Tr Bk} {b o n:Nat} {cs:List B} (e:ld h b o n true=some (.agg cs)) (k m:Nat) (g:Bool) (hk:k+m≤n) (hm:0<m):ld h b (o+k) m g=rdC cs k m g:=by
 unfold ld at e ⊢
 cases hb:h b with
 | none=>rw [hb] at e; cases e
 | some bk =>
  rw [hb] at e
  dsimp only at e ⊢
  cases hr:bk.rd with
  | false=>rw [hr] at e; cases e
  | true =>
   rw [hr] at e
   simp only [cond_true] at e ⊢
   unfold rdC at e
   dsimp only at e
   cases hx:(Nat.beq ((bk.cells.drop o).take n).length n && ((bk.cells.drop o).take n).all B.kn) with
   | false=>rw [hx] at e; cases e
   | true =>
    rw [hx] at e
    cases e
    rw [Bool.and_eq_true] at hx
    have hl:=Nat.eq_of_beq_eq_true hx.1
    rw [List.length_take] at hl
    unfold rdC
    cases g with
    | true =>
     dsimp only
     rw [List.drop_take,List.take_take,List.drop_drop,Nat.min_eq_left (by omega)]
    | false =>
     dsimp only
     rw [List.drop_take,List.drop_drop]
     have hd:n - k=(n - k - 1)+1:=by omega
     rw [hd]
     cases (bk.cells.drop (o+k)) <;> rfl
theorem ld_sub0 {h:Tr Bk} {b o n:Nat} {cs:List B} (e:ld h b o n true=some (.agg cs)) (m:Nat) (g:Bool) (hk:m≤n) (hm:0<m):ld h b o m g=rdC cs 0 m g:=ld_sub e 0 m g (by omega) hm
/-! ### Fractions; single cells -/
def ratC (q:Rat):List B:=[.bool (rn q),.str (rs q),.str (rd q)]
def rats (n:Nat) (f:Nat→Rat):List B:=celR n fun i=>ratC (f i)
def updF {α:Type} (f:Nat→α) (i:Nat) (q:α):Nat→α:=fun j=>if j=i then q else f j
theorem rd_rats (n:Nat) (f:Nat→Rat) (i:Nat) (h:i<n):rdC (rats n f) (i*3) 3 true=some (.agg [.bool (rn (f i)),.str (rs (f i)),.str (rd (f i))]):=by
 unfold rats
 have:=rd_cel (e:=3) (k:=0) (m:=3) (G:=fun i=>ratC (f i)) true (fun _=>rfl) h (by decide) (by decide)
 rw [Nat.add_zero] at this
 rw [this]; rfl
theorem wr_rats (n:Nat) (f:Nat→Rat) (i:Nat) (q:Rat) (h:i<n):wrC (rats n f) (i*3) [.bool (rn q),.str (rs q),.str (rd q)]=some (rats n (updF f i q)):=by
 unfold rats
 have:=wr_cel (e:=3) (k:=0) (vs:=ratC q) (G:=fun i=>ratC (f i)) (fun _=>rfl) h (Nat.le_refl 3)
 rw [Nat.add_zero] at this
 show wrC _ _ (ratC q)=_
 rw [this]
 show some _=some _
 congr 2
 funext j
 unfold updG updF
 split <;> rfl
theorem rep_rats (n:Nat):rep [.bool (rn 0),.str (rs 0),.str (rd 0)] n=rats n fun _=>0:=rep_cel _ n
theorem rats_snoc (n:Nat) (f:Nat→Rat) (q:Rat):rats n f ++ [.bool (rn q),.str (rs q),.str (rd q)]=rats (n+1) (updF f n q):=by
 unfold rats
 rw [show [B.bool (rn q),.str (rs q),.str (rd q)]=ratC q from rfl,cel_snoc]
 congr 1
 funext j
 unfold updG updF
 split <;> rfl
theorem rats_len (n:Nat) (f:Nat→Rat):(rats n f).length=n*3:=cel_len fun _=>rfl
def ones (n:Nat) (g:Nat→B):List B:=celR n fun i=>[g i]
theorem rd_ones (n:Nat) (g:Nat→B) (i:Nat) (h:i<n):rdC (ones n g) (i*1) 1 false=bif (g i).kn then some (.c (g i)) else none:=by
 unfold ones
 have:=rd_cel (e:=1) (k:=0) (m:=1) (G:=fun i=>[g i]) false (fun _=>rfl) h (by decide) (by decide)
 rw [Nat.add_zero] at this
 rw [this]; rfl
theorem wr_ones (n:Nat) (g:Nat→B) (i:Nat) (x:B) (h:i<n):wrC (ones n g) (i*1) [x]=some (ones n (updF g i x)):=by
 unfold ones
 have:=wr_cel (e:=1) (k:=0) (vs:=[x]) (G:=fun i=>[g i]) (fun _=>rfl) h (Nat.le_refl 1)
 rw [Nat.add_zero] at this
 rw [this]
 show some _=some _
 congr 2
 funext j
 unfold updG updF
 split <;> rfl
theorem rep_ones (x:B) (n:Nat):rep [x] n=ones n fun _=>x:=rep_cel _ n
theorem ones_snoc (n:Nat) (g:Nat→B) (x:B):ones n g ++ [x]=ones (n+1) (updF g n x):=by
 unfold ones
 rw [cel_snoc]
 congr 1
 funext j
 unfold updG updF
 split <;> rfl
theorem ones_len (n:Nat) (g:Nat→B):(ones n g).length=n*1:=cel_len fun _=>rfl
theorem updF_same {α:Type} (f:Nat→α) (i:Nat) (q:α):updF f i q i=q:=if_pos rfl
theorem updF_ne {α:Type} (f:Nat→α) (i j:Nat) (q:α) (h:j≠i):updF f i q j=f j:=if_neg h
/-! ### Slices of slices -/
def asN' : Option V→Nat→Option Nat
 | none,d=>some d
 | some v,_=>asN v
theorem capL_asN (b:Option O) (tm:Tr V) (d:Nat):capL b tm d=asN' (b.map (·.ev tm)) d:=by cases b <;> rfl
def sliV (esz:Nat) (x:V) (lo hi mx:Option V):Option V :=
 match x with
 | .c (.sl b o n c) =>
  match asN' lo 0,asN' hi n with
  | some l,some h=>bif Nat.ble l h && Nat.ble h n then
    match mx with
    | none=>(match c with
     | .ex k=>bif Nat.blt l k then some (.c (.sl b (o+l*esz) (h - l) (.ex (k - l)))) else none
     | .opn=>bif Nat.beq l 0 then some (.c (.sl b o h .opn)) else bif Nat.blt l n then some (.c (.sl b (o+l*esz) (h - l) .any)) else none
     | .any=>bif Nat.blt l n then some (.c (.sl b (o+l*esz) (h - l) .any)) else none)
    | some y=>match asN y with
     | some q=>bif Nat.ble h q && Nat.ble q n then bif Nat.beq l 0 then some (.c (.sl b o h (bif Nat.beq n 0 then .any else .ex q))) else none else none
     | none=>none
   else none
  | _,_=>none
 | .c .nils=>match asN' lo 0,asN' hi 0 with
  | some 0,some 0=>(match mx with | none=>some (.c .nils) | some y=>match asN y with | some 0=>some (.c .nils) | _=>none)
  | _,_=>none
 | _=>none
theorem qslice_sliV (esz:Nat) (x:O) (lo hi mx:Option O) (tm:Tr V):qslice esz x lo hi mx tm=sliV esz (x.ev tm) (lo.map (·.ev tm)) (hi.map (·.ev tm)) (mx.map (·.ev tm)):=by
 unfold qslice sliV
 simp only [fN_eq,capL_asN]
 cases mx <;> rfl
theorem o_slice (E:Env) (tm:Tr V) (σ:St) (K:V→St→Prop) (esz:Nat) (x:O) (lo hi mx:Option O):wpOp E (.slice esz x lo hi mx) tm σ K=onV (sliV esz (x.ev tm) (lo.map (·.ev tm)) (hi.map (·.ev tm)) (mx.map (·.ev tm))) fun v=>K v σ:=by
 rw [quiet_eq _ _ _ _ (by rfl) fun _ _ h=>by cases h]
 show onV (qslice esz x lo hi mx tm) _=_
 rw [qslice_sliV]
attribute [go_sem] o_slice Option.map_some Option.map_none
attribute [go_sem] rd_rats wr_rats rep_rats rd_ones wr_ones rep_ones
/-! ### Frames with exceptions -/
structure FrE (ex:List Nat) (σ σ' : St):Prop where
 le:σ.nxt≤σ'.nxt
 wf:WF σ'
 old : ∀ b,b<σ.nxt→¬ b∈ex→σ'.h b=σ.h b
theorem Fr.ex {σ σ' : St} (h:Fr σ σ') (ex:List Nat):FrE ex σ σ':=⟨h.le,h.wf,fun b hb _=>h.old b hb⟩
theorem FrE.refl {σ:St} {ex:List Nat} (h:WF σ):FrE ex σ σ:=(Fr.refl h).ex ex
theorem FrE.trans {ex:List Nat} {σ σ' σ'' : St} (h:FrE ex σ σ') (h' : FrE ex σ' σ''):FrE ex σ σ'':=⟨Nat.le_trans h.le h'.le,h'.wf,fun b hb hx=>(h'.old b (Nat.lt_of_lt_of_le hb h.le) hx).trans (h.old b hb hx)⟩
theorem FrE.to {ex:List Nat} {σ0 σ σ' : St} (h:Fr σ0 σ) (he:FrE ex σ σ') (hx : ∀ b∈ex,σ0.nxt≤b):Fr σ0 σ':=⟨Nat.le_trans h.le he.le,he.wf,fun b hb=>(he.old b (Nat.lt_of_lt_of_le hb h.le) fun hm=>by have:=hx b hm; omega).trans (h.old b hb)⟩
theorem FrE.new1 {ex:List Nat} {σ:St} {h:Tr Bk} {n:Nat} {k:Bk} (hf:FrE ex σ ⟨h,n⟩):FrE ex σ ⟨hset h n k,n+1⟩ :=
 ⟨Nat.le_succ_of_le hf.le,fun b hb=>by
  have hb:n+1≤b:=hb
  show hset h n k b=none
  rw [hset_ne _ _ _ _ (by omega)]; exact hf.wf b (show n≤b by omega),fun b hb hx=>by
  show hset h n k b=_
  have:σ.nxt≤n:=hf.le
  rw [hset_ne _ _ _ _ (by omega)]; exact hf.old b hb hx⟩
theorem FrE.set1 {ex:List Nat} {σ:St} {h:Tr Bk} {n b:Nat} {k:Bk} (hf:FrE ex σ ⟨h,n⟩) (hb:σ.nxt≤b∨b∈ex) (hb2:b<n):FrE ex σ ⟨hset h b k,n⟩ :=
 ⟨hf.le,fun j hj=>by
  have hj:n≤j:=hj
  show hset h b k j=none
  rw [hset_ne _ _ _ _ (by omega)]; exact hf.wf j hj,fun j hj hx=>by
  show hset h b k j=_
  rw [hset_ne _ _ _ _ (fun e=>by subst e; rcases hb with hb | hb; omega; exact hx hb)]; exact hf.old j hj hx⟩
theorem FrE.ld {ex:List Nat} {σ σ' : St} (h:WF σ) (hf:FrE ex σ σ') {b o n:Nat} {g:Bool} {v:V} (hx : ¬ b∈ex) (hb:Xe.ld σ.h b o n g=some v):Xe.ld σ'.h b o n g=some v:=by
 have hlt:=h.ld_lt hb
 unfold Xe.ld at hb ⊢
 rw [hf.old b hlt hx]; exact hb
theorem FrE.get {ex:List Nat} {σ σ' : St} (h:WF σ) (hf:FrE ex σ σ') {b:Nat} {k:Bk} (hx : ¬ b∈ex) (hb:σ.h b=some k):σ'.h b=some k:=by rw [hf.old b (h.lt hb) hx]; exact hb
/-! ### Numbers with a common denominator -/
def uK:Nat:=1000
def dK:Nat:=29000000
def eK:Nat:=29002000
def Zk (D k:Nat) (q:Rat):Prop:=∃ a:Int,q=(a:Rat)/(D:Rat)∧a.natAbs≤k*(D*256 ^ uK)
def DOk (D:Nat):Prop:=0<D∧D<256 ^ dK
theorem pow_aux {D k u d s a:Nat} (hD:D<256 ^ d) (hk:k≤256 ^ u) (hs:u+d+u≤s) (ha:a≤k*(D*256 ^ u)):a<256 ^ s:=by
 have h1:(256:Nat) ^ (u+d+u)≤256 ^ s:=Nat.pow_le_pow_right (by decide) hs
 refine Nat.lt_of_le_of_lt ha (Nat.lt_of_lt_of_le ?_ h1)
 rw [Nat.pow_add,Nat.pow_add,Nat.mul_assoc]
 exact Nat.lt_of_le_of_lt (Nat.mul_le_mul_right _ hk) (Nat.mul_lt_mul_of_pos_left (Nat.mul_lt_mul_of_pos_right hD (Nat.pow_pos (by decide))) (Nat.pow_pos (by decide)))
theorem Sm.int {k:Nat} {a:Int} (hk:k≠0) (h:a.natAbs<256 ^ k):Sm k (a:Rat):=⟨by show (a:Rat).num.natAbs<_; rwa [Rat.num_intCast],by rw [Rat.den_intCast]; exact Nat.one_lt_pow hk (by decide)⟩
section
variable {D k l:Nat} {p q:Rat}
theorem DOk.ne (h:DOk D):(D:Rat)≠0:=by
 have:=h.1
 intro e
 have:(D:Rat)=((0:Nat):Rat):=e
 have:=Rat.natCast_inj.mp this
 omega
theorem Zk.int {a:Int} (hD:DOk D) (hk:k≤256 ^ uK) (h:a.natAbs≤k*(D*256 ^ uK)):Sm eK (a:Rat):=Sm.int (by decide) (pow_aux hD.2 hk (by decide) h)
theorem Zk.sz (h:Zk D k q) (hD:DOk D) (hk:k≤256 ^ uK):Sz q:=by
 obtain ⟨a,rfl,h2⟩:=h
 have h3:Sm dK ((D:Int):Rat):=Sm.int (by decide) hD.2
 exact ((Zk.int hD hk h2).div h3 hD.ne).mono (by decide)
theorem Zk.mono (h:Zk D k q) (hkl:k≤l):Zk D l q:=by
 obtain ⟨a,e,h2⟩:=h
 exact ⟨a,e,Nat.le_trans h2 (Nat.mul_le_mul_right _ hkl)⟩
theorem Zk.add (h:Zk D k p) (h' : Zk D l q):Zk D (k+l) (p+q):=by
 obtain ⟨a,rfl,h2⟩:=h
 obtain ⟨b,rfl,h3⟩:=h'
 refine ⟨a+b,?_,?_⟩
 ·rw [Rat.intCast_add]; grind
 ·rw [Nat.add_mul]; omega
theorem Zk.neg (h:Zk D k p):Zk D k (-p):=by
 obtain ⟨a,rfl,h2⟩:=h
 refine ⟨-a,?_,by rw [Int.natAbs_neg]; exact h2⟩
 rw [Rat.intCast_neg]; grind
theorem Zk.sub (h:Zk D k p) (h' : Zk D l q):Zk D (k+l) (p - q):=by
 rw [Rat.sub_eq_add_neg]
 exact h.add h'.neg
theorem Zk.zero:Zk D k 0:=⟨0,by grind,by simp⟩
theorem Zk.den {m:Nat} (hm:0<m) (h:Zk D k p):Zk (D*m) k p:=by
 obtain ⟨a,rfl,h2⟩:=h
 refine ⟨a*m,?_,?_⟩
 ·have:(m:Rat)≠0:=fun e=>by
   have e:(m:Rat)=((0:Nat):Rat):=e
   have:=Rat.natCast_inj.mp e
   omega
  have e2:((a*(m:Int):Int):Rat)=(a:Rat)*(m:Rat):=by rw [Rat.intCast_mul]; rfl
  have e3:((D*m:Nat):Rat)=(D:Rat)*(m:Rat):=Rat.natCast_mul _ _
  rw [e2,e3]
  by_cases hD:(D:Rat)=0
  ·rw [hD]; grind
  ·grind
 ·rw [Int.natAbs_mul,Int.natAbs_natCast]
  calc a.natAbs*m≤k*(D*256 ^ uK)*m:=Nat.mul_le_mul_right _ h2
   _=k*(D*m*256 ^ uK):=by rw [Nat.mul_assoc,Nat.mul_right_comm D]
end
noncomputable def hdel (h:Tr Bk) (b:Nat):Tr Bk:=h.set b none
theorem hdel_at (h:Tr Bk) (b j:Nat):hdel h b j=if j=b then none else h j:=Tr.get_set h b none j
theorem hdel_ne (h:Tr Bk) (b j:Nat) (e:j≠b):hdel h b j=h j:=by rw [hdel_at,if_neg e]
theorem ld_del (h:Tr Bk) (b j o n:Nat) (g:Bool) (e:j≠b):ld (hdel h b) j o n g=ld h j o n g:=by unfold ld; rw [hdel_ne _ _ _ e]
def onVS (o:Option (V×St)) (K:V→St→Prop):Prop:=match o with | some (v,σ)=>K v σ | none=>False
@[congr] theorem onVS_congr {o o' : Option (V×St)} {K:V→St→Prop} (h:o=o'):onVS o K=onVS o' K:=by rw [h]
theorem onVS_some (v:V) (σ:St) (K:V→St→Prop):onVS (some (v,σ)) K=K v σ:=rfl
noncomputable def appX (ty esz bytes:Nat) (s x:V) (σ:St):Option (V×St) :=
 match x with
 | .c .nils=>appB ty esz bytes s 0 [] σ
 | .c (.sl b o m _)=>bif Nat.beq m 0 then appB ty esz bytes s 0 [] σ else match σ.h b with
  | some k=>bif k.rd && (Nat.beq ((k.cells.drop o).take (m*esz)).length (m*esz) && ((k.cells.drop o).take (m*esz)).all B.kn) then appB ty esz bytes s m ((k.cells.drop o).take (m*esz)) σ else none
  | none=>none
 | _=>none
theorem o_app (E:Env) (tm:Tr V) (σ:St) (K:V→St→Prop) (ty esz bytes:Nat) (s x:O):wpOp E (.app ty esz bytes s x) tm σ K=onVS (appX ty esz bytes (s.ev tm) (x.ev tm) σ) K:=by
 unfold wpOp stepO
 simp only [AOp.kind]
 show (match stepA (.app ty esz bytes s x) tm σ with | some (v,σ')=>K v σ' | none=>False)=_
 have e:stepA (.app ty esz bytes s x) tm σ=appX ty esz bytes (s.ev tm) (x.ev tm) σ:=by
  unfold stepA appX
  rfl
 rw [e]
 unfold onVS
 cases appX ty esz bytes (s.ev tm) (x.ev tm) σ <;> rfl
theorem appX_nils (ty esz bytes:Nat) (s:V) (σ:St):appX ty esz bytes s (.c .nils) σ=appB ty esz bytes s 0 [] σ:=rfl
theorem appX_sl0 (ty esz bytes:Nat) (s:V) (b o:Nat) (c:Cap) (σ:St):appX ty esz bytes s (.c (.sl b o 0 c)) σ=appB ty esz bytes s 0 [] σ:=rfl
theorem appX_sl (ty esz bytes:Nat) (s:V) (b o m:Nat) (c:Cap) (σ:St) (hm:0<m):appX ty esz bytes s (.c (.sl b o m c)) σ=match σ.h b with
  | some k=>bif k.rd && (Nat.beq ((k.cells.drop o).take (m*esz)).length (m*esz) && ((k.cells.drop o).take (m*esz)).all B.kn) then appB ty esz bytes s m ((k.cells.drop o).take (m*esz)) σ else none
  | none=>none:=by
 unfold appX
 dsimp only
 rw [beq_n (by omega:m≠0)]; rfl
variable {ty esz bytes n m:Nat} {news:List B} {h:Tr Bk} {nx b:Nat}
theorem appB_nils (h1:0<m) (h2:0<esz) (h3:m*bytes≤140737488355328) (h4:m≤1073741824):appB ty esz bytes (.c .nils) m news ⟨h,nx⟩=some (.c (.sl nx 0 m .opn),⟨hset h nx ⟨news,some (esz,ty)⟩,nx+1⟩):=by
 unfold appB
 dsimp only
 rw [beq_n (by omega:m≠0),blt_t h2,ble_t h3,ble_t h4]
 simp only [Bool.and_self,cond_true,cond_false,new_hset]
noncomputable def apK (ty esz bytes n m:Nat) (news:List B) (b:Nat) (h:Tr Bk) (nx:Nat) (k:Option Bk):Option (V×St):=match k with
 | some ⟨cells,some (e,t)⟩=>bif Nat.blt 0 e && Nat.beq 0 0 && (Nat.beq e esz && (Nat.beq t ty && (Nat.ble ((n+m)*bytes) 140737488355328 && (Nat.ble (n+m) 1073741824 && Nat.ble (n*esz) cells.length)))) then
   some (.c (.sl nx 0 (n+m) .opn),⟨hset (hdel h b) nx ⟨cells.take (n*esz) ++ news,some (esz,ty)⟩,nx+1⟩) else none
 | _=>none
theorem appB_opn (h1:0<m):appB ty esz bytes (.c (.sl b 0 n .opn)) m news ⟨h,nx⟩=apK ty esz bytes n m news b h nx (h b):=by
 unfold appB apK
 dsimp only
 rw [beq_n (by omega:m≠0)]
 simp only [cond_false]
 split
 ·next cells e t hk =>
  rw [hk]
  dsimp only
  cases (Nat.blt 0 e && Nat.beq 0 0 && (Nat.beq e esz && (Nat.beq t ty && (Nat.ble ((n+m)*bytes) 140737488355328 && (Nat.ble (n+m) 1073741824 && Nat.ble (n*esz) cells.length))))) with
  | false=>rfl
  | true =>
   simp only [cond_true,Tr.put,new_hset,fN_eq]
   rfl
 ·next hne =>
  split
  ·next cells e t hk=>exact (hne cells e t hk).elim
  ·rfl
theorem apK_some {cells:List B} (h2:0<esz) (h3:(n+m)*bytes≤140737488355328) (h4:n+m≤1073741824) (h5:n*esz≤cells.length):apK ty esz bytes n m news b h nx (some ⟨cells,some (esz,ty)⟩)=some (.c (.sl nx 0 (n+m) .opn),⟨hset (hdel h b) nx ⟨cells.take (n*esz) ++ news,some (esz,ty)⟩,nx+1⟩):=by
 unfold apK
 dsimp only
 rw [blt_t h2,ble_t h3,ble_t h4,ble_t h5]
 simp
theorem appB_zero (b o n:Nat) (σ:St):appB ty esz bytes (.c (.sl b o n (.ex n))) 0 news σ=some (.c (.sl b o n (.ex n)),σ):=by
 unfold appB
 dsimp only
 rw [ble_t (Nat.le_refl n)]; rfl
theorem appB_any (b o n:Nat) (σ:St):appB ty esz bytes (.c (.sl b o n .any)) 0 news σ=some (.c (.sl b o n .any),σ):=rfl
theorem appB_nilsS (σ:St) (h1:0<m) (h2:0<esz) (h3:m*bytes≤140737488355328) (h4:m≤1073741824):appB ty esz bytes (.c .nils) m news σ=some (.c (.sl σ.nxt 0 m .opn),⟨hset σ.h σ.nxt ⟨news,some (esz,ty)⟩,σ.nxt+1⟩):=appB_nils h1 h2 h3 h4
theorem appB_nils0 (σ:St):appB ty esz bytes (.c .nils) 0 news σ=some (.c .nils,σ):=rfl
theorem appB_opnS (σ:St) (h1:0<m):appB ty esz bytes (.c (.sl b 0 n .opn)) m news σ=apK ty esz bytes n m news b σ.h σ.nxt (σ.h b):=appB_opn h1
theorem appB_clone {σ:St} (hb:σ.h b=some ⟨[],none⟩) (h1:0<m) (h2:0<esz) (h3:m*bytes≤140737488355328) (h4:m≤1073741824):appB ty esz bytes (.c (.sl b 0 0 (.ex 0))) m news σ=some (.c (.sl σ.nxt 0 m .opn),⟨hset σ.h σ.nxt ⟨news,some (esz,ty)⟩,σ.nxt+1⟩):=by
 unfold appB
 dsimp only
 rw [beq_n (by omega:m≠0),hb]
 simp only [cond_false,Bk.rd,Nat.zero_mul,List.take_zero,List.all_nil,blt_t h2,Nat.zero_add,blt_t h1,ble_t h3,ble_t h4,List.length_nil,Bool.and_self,cond_true,new_hset,fN_eq,List.drop_zero,List.nil_append,Bool.true_and,Nat.add_zero]
 rfl
theorem Fr.del1 {σ:St} {h:Tr Bk} {n b:Nat} (hf:Fr σ ⟨h,n⟩) (h1:σ.nxt≤b):Fr σ ⟨hdel h b,n⟩ :=
 ⟨hf.le,fun j hj=>by
  show hdel h b j=none
  rw [hdel_at]
  split
  ·rfl
  ·exact hf.wf j hj,fun j hj=>by
  show hdel h b j=_
  rw [hdel_ne _ _ _ (by omega)]; exact hf.old j hj⟩
theorem FrE.del1 {ex:List Nat} {σ:St} {h:Tr Bk} {n b:Nat} (hf:FrE ex σ ⟨h,n⟩) (h1:σ.nxt≤b∨b∈ex):FrE ex σ ⟨hdel h b,n⟩ :=
 ⟨hf.le,fun j hj=>by
  show hdel h b j=none
  rw [hdel_at]
  split
  ·rfl
  ·exact hf.wf j hj,fun j hj hx=>by
  show hdel h b j=_
  rw [hdel_ne _ _ _ (fun e=>by subst e; rcases h1 with h | h; omega; exact hx h)]; exact hf.old j hj hx⟩
theorem Fr.up {σ σ' : St} {n:Nat} (hf:Fr σ σ') (hn:σ'.nxt≤n):Fr σ ⟨σ'.h,n⟩:=⟨Nat.le_trans hf.le hn,fun b hb=>hf.wf b (Nat.le_trans hn hb),hf.old⟩
theorem Fr.newU {σ:St} {h:Tr Bk} {n n' : Nat} {k:Bk} (hf:Fr σ ⟨h,n⟩) (hn:n<n'):Fr σ ⟨hset h n k,n'⟩:=Fr.up (Fr.new1 hf) hn
theorem FrE.up {ex:List Nat} {σ σ' : St} {n:Nat} (hf:FrE ex σ σ') (hn:σ'.nxt≤n):FrE ex σ ⟨σ'.h,n⟩:=⟨Nat.le_trans hf.le hn,fun b hb=>hf.wf b (Nat.le_trans hn hb),hf.old⟩
theorem FrE.newU {ex:List Nat} {σ:St} {h:Tr Bk} {n n' : Nat} {k:Bk} (hf:FrE ex σ ⟨h,n⟩) (hn:n<n'):FrE ex σ ⟨hset h n k,n'⟩:=FrE.up (FrE.new1 hf) hn
theorem CallX.st {E:Env} {f:Nat} {args:List V} {σ:St} {K:V→St→Prop} (P:St→Prop) (h:P σ) (h2:P σ→CallX E f args σ K):CallX E f args σ K:=h2 h
theorem RunX.st {E:Env} {c:AC} {tm:Tr V} {σ:St} {Q:AX→Tr V→St→Prop} (P:St→Prop) (h:P σ) (h2:P σ→RunX E c tm σ Q):RunX E c tm σ Q:=h2 h
/-! ### Lists of cells that are read -/
theorem cel_of_rd {e:Nat} {l:List B} : ∀ {n:Nat} {o:Nat} {G:Nat→List B},(∀ i,i<n→rdC l (o+i*e) e true=some (.agg (G i)))→(l.drop o).take (n*e)=celR n G∧(celR n G).length=n*e∧(celR n G).all B.kn=true
 | 0,o,G,_=>by rw [Nat.zero_mul,List.take_zero]; exact ⟨rfl,rfl,rfl⟩
 | n+1,o,G,h=>by
  have h0:=h 0 (by omega)
  rw [Nat.zero_mul,Nat.add_zero] at h0
  unfold rdC at h0
  dsimp only at h0
  cases hx:(Nat.beq ((l.drop o).take e).length e && ((l.drop o).take e).all B.kn) with
  | false=>rw [hx] at h0; cases h0
  | true =>
   rw [hx] at h0
   have e0:(l.drop o).take e=G 0:=by
    have:=Option.some.inj h0
    exact V.agg.inj this
   rw [Bool.and_eq_true] at hx
   have hl:=Nat.eq_of_beq_eq_true hx.1
   obtain ⟨h1,h2,h3⟩:=cel_of_rd (o:=o+e) (n:=n) (G:=fun i=>G (i+1)) fun i hi=>by
    have:=h (i+1) (by omega)
    rw [Nat.succ_mul,Nat.add_comm (i*e),← Nat.add_assoc] at this
    exact this
   refine ⟨?_,?_,?_⟩
   ·unfold celR
    rw [← e0,← h1,← List.drop_drop,Nat.succ_mul,Nat.add_comm (n*e),List.take_add]
   ·unfold celR
    rw [List.length_append,h2,← e0,hl,Nat.succ_mul,Nat.add_comm]
   ·unfold celR
    rw [List.all_append,h3,← e0,hx.2]; rfl
theorem blk_of_ld {h:Tr Bk} {e b o n:Nat} {G:Nat→List B} (hn:0<n) (hl : ∀ i,i<n→ld h b (o+i*e) e true=some (.agg (G i))) : ∃ k,h b=some k∧k.rd=true∧(k.cells.drop o).take (n*e)=celR n G∧(celR n G).length=n*e∧(celR n G).all B.kn=true:=by
 cases hb:h b with
 | none =>
  have:=hl 0 hn
  unfold ld at this
  rw [hb] at this; cases this
 | some k =>
  refine ⟨k,rfl,?_,cel_of_rd fun i hi=>?_⟩
  ·have:=hl 0 hn
   unfold ld at this
   rw [hb] at this
   cases hr:k.rd with
   | true=>rfl
   | false=>dsimp only at this; rw [hr] at this; cases this
  ·have:=hl i hi
   unfold ld at this
   rw [hb] at this
   dsimp only at this
   cases hr:k.rd with
   | true=>rw [hr] at this; exact this
   | false=>rw [hr] at this; cases this
theorem rats_take (n:Nat) (f:Nat→Rat):(rats n f).take (n*3)=rats n f:=by rw [← rats_len n f,List.take_length]
theorem ones_take (n:Nat) (g:Nat→B):(ones n g).take (n*1)=ones n g:=by rw [← ones_len n g,List.take_length]
theorem appB_cl (h1:0<m) (h2:0<esz) (h3:m*bytes≤140737488355328) (h4:m≤1073741824):appB ty esz bytes (.c (.sl b 0 0 (.ex 0))) m news ⟨hset h b ⟨[],none⟩,nx⟩=some (.c (.sl nx 0 m .opn),⟨hset (hset h b ⟨[],none⟩) nx ⟨news,some (esz,ty)⟩,nx+1⟩):=appB_clone (hset_get _ _ _) h1 h2 h3 h4
theorem cel_kn : ∀ {n:Nat} {G:Nat→List B},(∀ j,(G j).all B.kn=true)→(celR n G).all B.kn=true
 | 0,_,_=>rfl
 | n+1,G,h=>by unfold celR; rw [List.all_append,h 0,cel_kn fun j=>h (j+1)]; rfl
theorem rats_kn (n:Nat) (f:Nat→Rat):(rats n f).all B.kn=true:=cel_kn fun _=>rfl
theorem int_1:((Int.ofNat 1:Int):Rat)=1:=rfl
theorem int_0:((Int.ofNat 0:Int):Rat)=0:=rfl
attribute [go_sem] appB_cl rats_kn Bool.not_true Bool.not_false int_1 int_0 hdel_ne ld_del onVS_some o_app appX_nils appX_sl appX_sl0 appB_any appB_nilsS appB_nils0 appB_opnS apK_some appB_zero rats_take ones_take rats_len ones_len rats_snoc ones_snoc
end Go.Proofs.Xe
