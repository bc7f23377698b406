/- The bJ: a region that draws its order. -/
import Derived.Test.YtjonjhcaniinaaaGreatDoorZ12
import Derived.Orders
set_option linter.all false
namespace Go.Proofs.Xe
open Go.RowKit Go.Proofs.Ins
def ao0 (op:Op):qL→Bool
 | .call g args=>(match op with|.call c=>(match c.callee with|.value f=>uq f g && WB c.args.toList args|_=>false)|_=>false)
 | _=>false
def adw (K:Nat):Option Nat→Option Nat→Bool
 | none,none=>true
 | some d,some e=>Nat.beq d e && Nat.blt d K
 | _,_=>false
def alq (ops:Array Oper):Option (Nat×Bool)→Option (Nat×Bool)→Bool
 | none,none=>true
 | some (j,b),some (t,c)=>(match (ops[j]?).bind (·.dst) with|some d=>Nat.beq d t|none=>false) && (b == c)
 | _,_=>false
def JD (P:Program) (K:Nat) (ops:Array Oper) (o:Oper) (ao:AO):Bool :=
 alq ops o.guard ao.g && (adw K o.dst ao.dst && (match ao.op.kind with|.q=>jh P o.op ao.op|.n=>Mc P o.op ao.op|.a=>Gu P o.op ao.op|.c=>ao0 o.op ao.op))
def okF (P : Program) (f : Nat) : Prop := ∃ fn, P.funcs[f]? = some fn ∧ fn.body.isNone = false ∧ (fn.name == "runtime.NumGoroutine") = false
section
variable {P:Program} {N:Nat} {w0 w w' : World} {φ φ' : Ph} {σ σ' : St} {tm tm' : Tr V} {a:Act} {v:V}
def PL (P:Program) (cl:Nat→List V→St→Option (V×St)):Prop :=
 ∀ (f:Nat) (args:List V) (σ:St) (v:V) (σ' : St),cl f args σ=some (v,σ')→∀ (N:Nat) (w0:World) (φ:Ph) (w:World) (aG:Array Value),Rel N w0 φ σ w→wE φ args aG.toList →
  okF P f∧Calls P f aG w fun e w'=>∃ cv,e = .returned cv∧∃ φ',Ext σ.ah φ φ'∧Rel N w0 φ' σ' w'∧RV φ' v cv∧σ.ah≤σ'.ah
theorem wE.append : ∀ {l:List V} {r:List Value} {l' : List V} {r' : List Value},wE φ l r→wE φ l' r'→wE φ (l ++ l') (r ++ r')
 | [],[],_,_,_,h=>h
 | _::_,_::_,_,_,hv,h=>⟨hv.1,wE.append hv.2 h⟩
 | [],_::_,_,_,hv,_=>hv.elim
 | _::_,[],_,_,hv,_=>hv.elim
theorem kL.akh : ∀ {l:List B} {r:List Value},kL φ l r→wE φ (l.map .c) r
 | [],[],_=>trivial
 | _::_,_::_,hv=>⟨hv.1,kL.akh hv.2⟩
 | [],_::_,hv=>hv.elim
 | _::_,[],hv=>hv.elim
theorem Bg {K:Nat} {d e:Option Nat} (h:adw K d e=true):d=e∧∀ i,d=some i→i<K:=by
 unfold adw at h
 split at h
 ·exact ⟨rfl,fun i h=>by cases h⟩
 ·next x y =>
  rw [Bool.and_eq_true] at h
  have h1:=Nat.eq_of_beq_eq_true h.1
  subst h1
  exact ⟨rfl,fun i hi=>by cases hi;exact Nat.le_of_ble_eq_true h.2⟩
 ·cases h
theorem RT.put (h:RT φ tm a) {d:Option Nat} {cv:Value} (hs:Bf tm d v=some tm') (hv:RV φ v cv) (hd : ∀ i,d=some i→i<a.tmps.size):RT φ tm' (a.put d cv):=by
 cases d with
 | none =>
  simp only [Bf,Option.some.injEq] at hs
  subst hs
  exact h
 | some d =>
  simp only [Bf] at hs
  have hlt:=hd d rfl
  intro t u ht
  rw [Tr.get_put _ _ _ _ _ t hs] at ht
  simp only [Act.put,Array.getD_eq_getD_getElem?,Array.getElem?_setIfInBounds]
  by_cases e:d=t
  ·subst e
   rw [if_pos rfl] at ht
   cases ht
   simp [hlt,hv]
  ·rw [if_neg (fun e2=>e e2.symm)] at ht
   rw [if_neg e]
   have:=h t u ht
   simpa using this
theorem WH [WC:mW P] {cl:Nat→List V→St→Option (V×St)} (hcl:PL P cl) {K:Nat} {ops:Array Oper} {o:Oper} {ao:AO} (hi:JD P K ops o ao=true) (hR:Rel N w0 φ σ w) (ht:RT φ tm a) (h:lZ cl ao.op tm σ=some (v,σ'))
  {next:Act→World→Prop} {Q:Exit→Act→World→Prop} (hn : ∀ cv φ' w',Ext σ.ah φ φ'→Rel N w0 φ' σ' w'→RV φ' v cv→σ.ah≤σ'.ah→next (a.put o.dst cv) w'):o.wp P a w next Q:=by
 unfold JD at hi
 simp only [Bool.and_eq_true] at hi
 obtain ⟨-,-,hi⟩:=hi
 unfold lZ at h
 unfold Oper.wp
 cases hk:ao.op.kind with
 | q =>
  rw [hk] at hi h
  simp only at hi h
  split at h
  ·next u hu =>
   cases h
   obtain ⟨cv,h1,h2⟩:=Jw hR hi hu ht o rfl
   rw [h1]
   exact hn cv φ w (Ext.refl _ _) hR h2 jp
  ·cases h
 | n =>
  rw [hk] at hi h
  simp only at hi h
  split at h
  ·next l vf hl =>
   split at h
   ·next b σ'' hnew =>
    cases h
    obtain ⟨cs,T,cv,h1,h2,h3⟩:=JA (w:=w) hi hl ht o rfl
    rw [h1]
    obtain ⟨hb,hnx,-⟩:=sW hnew
    subst hb
    refine hn cv (Dp φ σ.ah (w.heap.size,0)) _ (wG φ σ.ah _) (hR.new hnew (World.grownBy_alloc w _ _) hR.size kc (fun i p hi' _ e=>?_) (.inl ⟨ahh,cs,T,heap_alloc_new w _,?_,?_,fun e t h9=>by cases h9⟩)) (h3 _ _ (gV _ _ _)) jb
    ·have:=hR.lo i p hi'
     omega
    ·rw [List.take_of_length_le (by rw [h2.length];exact jp)]
     exact h2
    ·rw [h2.length,Array.length_toList]
     exact jp
   ·cases h
  ·cases h
 | a =>
  rw [hk] at hi h
  simp only at hi h
  obtain ⟨nx,cv,w1,h1,h2,φ',h3,h4,h5,h6⟩:=WG hR hi h ht o rfl
  rw [h1]
  rcases h2 with rfl|⟨rfl,rfl⟩
  ·exact hn cv φ' w1 h3 h4 h5 h6
  ·exact hn undef φ' w1 h3 h4 h5 h6
 | c =>
  rw [hk] at hi h
  simp only at hi h
  split at h
  ·next f args hc =>
   unfold YF at hc
   split at hc
   ·next g ao1 hop =>
    rw [hop] at hi
    simp only [ao0] at hi
    split at hi
    ·next c hoc =>
     split at hi
     ·next F hF =>
      rw [Bool.and_eq_true] at hi
      have hg:=bV hi.1 ht
      have has:=S9 ht hi.2
      split at hc
      ·next f' caps he =>
       cases hc
       rw [he] at hg
       obtain ⟨r,e1,hr⟩:=hg
       have hargs:wE φ (List.map (fun x=>O.ev tm x) ao1 ++ caps.map .c) ((c.args.map a.eval) ++ r).toList:=by
        rw [Array.toList_append,Array.toList_map]
        exact has.append hr.akh
       obtain ⟨⟨fn,hf1,hf2,hf3⟩,hC⟩:=hcl f _ σ v σ' h N w0 φ w _ hR hargs
       have hrun:(execOp a.eval o).run P w = .ok (.enter f ((c.args.map a.eval) ++ r)) w:=by
        have arM : ¬ fn.body=none:=fun e=>by rw [e] at hf2;cases hf2
        have ahw : ¬ fn.name = "runtime.NumGoroutine" := by simpa using hf3
        simp [execOp,hoc,resolve,hF,e1,Deferred.ofValue,invoke,callFunc,hf1,arM,ahw]
       rw [hrun]
       refine Calls.mono hC fun e w2 he=>?_
       obtain ⟨cv,rfl,φ',q1,q2,q3,q4⟩:=he
       exact hn cv φ' w2 q1 q2 q3 q4
      ·cases hc
     ·cases hi
    ·cases hi
   ·cases hc
  ·cases h
theorem EH {ops:Array Oper} {o:Oper} {g:Option (Nat×Bool)} {b:Bool} (hi:alq ops o.guard g=true) (ht:RT φ tm a) (h:gate g tm=some b):Region.wanted o (yielded ops a.tmps)=b:=by
 unfold Region.wanted
 unfold alq at hi
 split at hi
 ·rename_i hg
  simp only [gate,Option.some.injEq] at h
  rw [hg]
  exact h
 ·next j want t c hg =>
  rw [hg]
  simp only [Bool.and_eq_true] at hi
  obtain ⟨h1,h2⟩:=hi
  have h2:=eq_of_beq h2
  subst h2
  split at h1
  ·next d hd =>
   have h1:=Nat.eq_of_beq_eq_true h1
   subst h1
   have hv:=RV.tm ht d
   simp only [gate] at h
   simp only [yielded,hd,Option.bind_some]
   rw [Array.getD_eq_getD_getElem?] at hv
   split at h
   ·next x e =>
    rw [e] at hv
    cases hl:a.tmps[d]? with
    | none=>rw [hl] at hv;simp only [Option.getD_none,RV,RB,undef,reduceCtorEq] at hv
    | some u =>
     rw [hl] at hv
     have hv:u = .bool x:=hv
     subst hv
     cases h
     show (some x == some want)=(x == want)
     cases x <;> cases want <;> rfl
   ·next e =>
    rw [e] at hv
    cases h
    cases hl:a.tmps[d]? with
    | none=>rfl
    | some u =>
     rw [hl] at hv
     have hv:u = .tuple #[]:=hv
     subst hv
     rfl
   ·cases h
  ·cases h1
 ·cases hi
theorem JF [WC:mW P] {cl:Nat→List V→St→Option (V×St)} (hcl:PL P cl) {K i:Nat} {ops:Array Oper} {o:Oper} {ao:AO} (hoi:ops[i]?=some o) (hi:JD P K ops o ao=true) (hR:Rel N w0 φ σ w) (ht:RT φ tm a) (h:stepG cl ao tm σ=some (v,σ'))
  {next:Act→World→Prop} {Q:Exit→Act→World→Prop} (hn : ∀ cv φ' w',Ext σ.ah φ φ'→Rel N w0 φ' σ' w'→RV φ' v cv→σ.ah≤σ'.ah→next (a.put o.dst cv) w'):wpOp P ops Q i next a w:=by
 have hi':=hi
 unfold JD at hi'
 simp only [Bool.and_eq_true] at hi'
 unfold stepG at h
 unfold wpOp
 simp only [hoi]
 split at h
 ·next hg =>
  rw [if_pos (EH hi'.1 ht hg)]
  exact .inl (WH hcl hi hR ht h hn)
 ·next hg =>
  rw [if_neg (by rw [EH hi'.1 ht hg];simp)]
  cases h
  exact hn undef φ w (Ext.refl _ _) hR rfl jp
 ·cases h
def After (N:Nat) (w0:World) (φ:Ph) (σ σ' : St) (tm' : Tr V) (a:Act) (K:Nat) (a' : Act) (w' : World):Prop :=
 a'.defers=a.defers∧K≤a'.tmps.size∧∃ φ',Ext σ.ah φ φ'∧Rel N w0 φ' σ' w'∧RT φ' tm' a'∧σ.ah≤σ'.ah
theorem After.trans {σ2:St} {tm2:Tr V} {a1 a2:Act} {w2:World} {K:Nat} {φ1:Ph} (h1:a1.defers=a.defers) (h2:Ext σ.ah φ φ1) (h3:σ.ah≤σ'.ah) (h:After N w0 φ1 σ' σ2 tm2 a1 K a2 w2):After N w0 φ σ σ2 tm2 a K a2 w2:=by
 obtain ⟨q1,q2,φ',q3,q4,q5,q6⟩:=h
 exact ⟨q1.trans h1,q2,φ',h2.trans q3 h3,q4,q5,Nat.le_trans h3 q6⟩
theorem put_defers (a:Act) (d:Option Nat) (v:Value):(a.put d v).defers=a.defers:=by cases d <;> rfl
theorem yP (a:Act) (d:Option Nat) (v:Value):(a.put d v).tmps.size=a.tmps.size:=by cases d <;> simp [Act.put]
def JG (P:Program) (K:Nat) (ops:Array Oper):List Oper→List AO→Bool
 | [],[]=>true
 | o::r,x::l=>JD P K ops o x && JG P K ops r l
 | _,_=>false
theorem FW [WC:mW P] {cl:Nat→List V→St→Option (V×St)} (hcl:PL P cl) {K:Nat} {ops:Array Oper} {Q:Exit→Act→World→Prop} : ∀ (os:List Oper) (l:List AO) (s:Nat) (tm:Tr V) (σ:St) (φ:Ph) (a:Act) (w:World),JG P K ops os l=true →
  (∀ j o,os[j]?=some o→ops[s+j]?=some o)→Rel N w0 φ σ w→RT φ tm a→K≤a.tmps.size→oQ cl l tm σ=some (tm',σ')→(∀ a' w',After N w0 φ σ σ' tm' a K a' w'→Q .normal a' w')→wpOps P ops Q (List.range' s os.length) a w
 | [],[],s,tm,σ,φ,a,w,_,_,hR,ht,hK,h,hQ=>by
  simp only [oQ,Option.some.injEq,Prod.mk.injEq] at h
  obtain ⟨rfl,rfl⟩:=h
  exact hQ a w ⟨rfl,hK,φ,Ext.refl _ _,hR,ht,Nat.le_refl _⟩
 | [],_::_,_,_,_,_,_,_,h,_,_,_,_,_,_=>by cases h
 | _::_,[],_,_,_,_,_,_,h,_,_,_,_,_,_=>by cases h
 | o::os,x::l,s,tm,σ,φ,a,w,hi,ho,hR,ht,hK,h,hQ=>by
  unfold JG at hi
  rw [Bool.and_eq_true] at hi
  obtain ⟨hi1,hi2⟩:=hi
  have hos:ops[s]?=some o:=by simpa using ho 0 o rfl
  have alr:=hi1
  unfold JD at alr
  simp only [Bool.and_eq_true] at alr
  obtain ⟨-,g2,-⟩:=alr
  obtain ⟨d1,d2⟩:=Bg g2
  unfold oQ at h
  split at h
  ·next v1 σ1 hs =>
   split at h
   ·next EI Ht =>
    rw [List.length_cons,List.range'_succ,wpOps_cons]
    refine JF hcl hos hi1 hR ht hs fun cv φ1 w1 e1 r1 v1' n1=>?_
    have hput:RT φ1 EI (a.put o.dst cv):=by
     rw [d1]
     exact (ht.ext e1 hR.old).put Ht v1' (fun i hi=>by have:=d2 i (d1.trans hi);omega)
    refine FW hcl os l (s+1) EI σ1 φ1 _ w1 hi2 (fun j o' hj=>by rw [show s+1+j=s+(j+1) by omega];exact ho (j+1) o' (by simpa using hj)) r1 hput (by rw [yP];exact hK) h fun a' w' hA=>hQ a' w' ?_
    exact hA.trans (put_defers _ _ _) e1 n1
   ·cases h
  ·cases h
theorem Tn [WC:mW P] {cl:Nat→List V→St→Option (V×St)} (hcl:PL P cl) {K id:Nat} {ops:Array Oper} {Q:Exit→Act→World→Prop} {l:List AO} (hi:JG P K ops ops.toList l=true)
  (hR:Rel N w0 φ σ w) (ht:RT φ tm a) (hK:K≤a.tmps.size) (h:oQ cl l tm σ=some (tm',σ')) (hQ : ∀ a' w',After N w0 φ σ σ' tm' a K a' w'→Q .normal a' w'):(Code.region id ops false).wp P Q a w:=by
 refine wp_region ?_
 have:=FW (ops:=ops) (Q:=Q) hcl ops.toList l 0 tm σ φ a w hi (fun j o hj=>by simpa using hj) hR ht hK h hQ
 rwa [Array.length_toList,← List.range_eq_range'] at this
end
def Dr.EJ:Dr→List DO
 | .fin qs=>qs
 | .act qs x r=>qs ++ x::r.EJ
def yQ:Kd→Bool
 | .q|.n=>true
 | _=>false
def yR (pt:List (List Nat)):Dr→Bool
 | .fin qs=>qs.all fun y=>yQ y.o.op.kind
 | .act qs x r=>(qs.all fun y=>yQ y.o.op.kind) && (!yQ x.o.op.kind && (r.EJ.all (fun y=>(pt.getD y.i []).contains x.i) && yR pt r))
def ahx (ops:Array Oper) (pt:List (List Nat)) (i:Nat):Bool :=
 match ops[i]? with
 | some o=>(pt.getD i []).all (fun p=>o.after.toList.any fun e=>Region.binds .any e && (Nat.beq e.on p || (pt.getD e.on []).contains p)) && o.after.toList.all (fun e=>!Region.binds .any e || Nat.blt e.on i)
 | none=>false
def aaG (P:Program) (K:Nat) (ops:Array Oper) (pt:List (List Nat)) (ds:List Nat) (x:DO):Bool :=
 match ops[x.i]? with
 | some o=>JD P K ops o x.o && (x.us.all (fun u=>(pt.getD x.i []).contains u) && (match x.o.dst with|some d=>ds.contains d|none=>true))
 | none=>false
def nU:List DO→Bool
 | []=>true
 | x::l=>l.all (fun y=>!Nat.beq x.i y.i && (match x.o.dst,y.o.dst with|some d,some e=>!Nat.beq d e|_,_=>true)) && nU l
def adx (P:Program) (K:Nat) (ops:Array Oper) (d:Dr) (pt:List (List Nat)) (ds:List Nat):Bool :=
 d.EJ.all (aaG P K ops pt ds) && (d.EJ.all (fun x=>x.os.all fun t=>d.EJ.all fun y=>!(y.o.dst == some t) || (pt.getD y.i []).contains x.i)) && (nU d.EJ && (yR pt d && ((List.range ops.size).all (fun i=>ahx ops pt i && d.EJ.any (fun x=>Nat.beq x.i i)))))
section
variable {P:Program} {N:Nat} {w0 w w' : World} {φ φ' : Ph} {σ σ' : St} {tm tm' : Tr V} {a:Act} {v:V}
theorem WI {op:qL} (hk:op.kind = .q) (hl:op.looks=false) (tm:Tr V) (σ σ' : St):dB op tm σ=dB op tm σ':=by
 cases op <;> first|rfl|cases hl|cases hk
theorem JH : ∀ {l:List DO},nU l=true→∀ x∈l,∀ y∈l,∀ d,x.o.dst=some d→y.o.dst=some d→x=y
 | [],_,x,hx,_,_,_,_,_=>by cases hx
 | z::l,h,x,hx,y,hy,d,e,e'=>by
  unfold nU at h
  rw [Bool.and_eq_true,List.all_eq_true] at h
  rcases List.mem_cons.mp hx with rfl|hx' <;> rcases List.mem_cons.mp hy with rfl|hy'
  ·rfl
  ·have:=h.1 y hy'
   rw [Bool.and_eq_true] at this
   rw [e,e'] at this
   simp at this
  ·have:=h.1 x hx'
   rw [Bool.and_eq_true] at this
   rw [e,e'] at this
   simp at this
  ·exact JH h.2 x hx' y hy' d e e'
structure Lg (φ:Ph) (L:Nat→Prop) (bZ bf:Tr V) (all:List DO) (res:List Rs) (a:Act):Prop where
 base:RT φ bf a
 got : ∀ r∈res,L r.i→∀ d,r.d=some d→d<a.tmps.size∧RV φ r.v (a.tmps.getD d undef)
 old : ∀ t,(∀ y∈all,y.o.dst=some t→¬ L y.i)→RV φ (bZ.aj t) (a.tmps.getD t undef)
theorem PN (h:RT φ tm a) {d:Option Nat} (hs:Bf tm d v=some tm') (hv : ∀ i,d=some i→RV φ v (a.tmps.getD i undef)):RT φ tm' a:=by
 cases d with
 | none =>
  simp only [Bf,Option.some.injEq] at hs
  subst hs
  exact h
 | some d =>
  simp only [Bf] at hs
  intro t u ht
  rw [Tr.get_put _ _ _ _ _ t hs] at ht
  split at ht
  ·next e =>
   cases ht
   rw [e]
   exact hv d rfl
  ·exact h t u ht
theorem NJ {L:Nat→Prop} {bZ bf:Tr V} {all:List DO} {res:List Rs} (h:Lg φ L bZ bf all res a) : ∀ (us:List Nat) (tm:Tr V),(∀ u∈us,L u)→Ew bf res us=some tm→RT φ tm a
 | [],tm,_,e=>by
  simp only [Ew,Option.some.injEq] at e
  subst e
  exact h.base
 | u::us,tm,hu,e=>by
  unfold Ew at e
  split at e
  ·next EI r h1 h2 =>
   have hr:=List.find?_some h2
   have hr:r.i=u:=Nat.eq_of_beq_eq_true hr
   refine PN (NJ h us EI (fun x hx=>hu x (by simp [hx])) h1) e fun i hi=>?_
   exact (h.got r (List.mem_of_find?_eq_some h2) (by rw [hr];exact hu u kc) i hi).2
  ·cases e
theorem Tq {L:Nat→Prop} {bZ bf:Tr V} {all:List DO} {res:List Rs} (h:Lg φ L bZ bf all res a) {us os:List Nat} {tm:Tr V} (hu : ∀ u∈us,L u) (ho : ∀ t∈os,∀ y∈all,y.o.dst=some t→¬ L y.i) (e:Jq bZ bf res us os=some tm):RT φ tm a:=by
 unfold Jq at e
 split at e
 ·next EI h1 =>
  have h2:=NJ h us EI hu h1
  clear h1
  induction os generalizing tm with
  | nil =>
   simp only [xW,Option.some.injEq] at e
   subst e
   exact h2
  | cons t os ih =>
   unfold xW at e
   split at e
   ·next tm2 h3 =>
    exact PN (ih (fun t ht=>ho t (by simp [ht])) h3) e fun i hi=>by
     cases hi
     exact h.old t (ho t kc)
   ·cases e
 ·cases e
theorem NK {L:Nat→Prop} {bZ bf:Tr V} {all:List DO} : ∀ {res:List Rs} {tm:Tr V},Lg φ L bZ bf all res a→(∀ r∈res,L r.i)→Ey bf res=some tm→RT φ tm a
 | [],tm,h,_,e=>by
  simp only [Ey,Option.some.injEq] at e
  subst e
  exact h.base
 | r::res,tm,h,hL,e=>by
  unfold Ey at e
  split at e
  ·next EI h1 =>
   exact PN (NK ⟨h.base,fun x hx=>h.got x (by simp [hx]),h.old⟩ (fun x hx=>hL x (by simp [hx])) h1) e fun i hi=>(h.got r kc (hL r kc) i hi).2
  ·cases e
theorem FX : ∀ {ds:List Nat} {tm bf:Tr V},xC tm ds=some bf→(∀ d∈ds,bf.get d=none)∧∀ t,bf.get t=none∨bf.get t=tm.get t
 | [],tm,bf,e=>by
  simp only [xC,Option.some.injEq] at e
  subst e
  exact ⟨fun d hd=>(by cases hd),fun t=>.inr rfl⟩
 | d::ds,tm,bf,e=>by
  unfold xC at e
  split at e
  ·next t1 h1 =>
   obtain ⟨p1,p2⟩:=FX h1
   have hget:=fun j=>Tr.get_put _ _ _ _ _ j e
   refine ⟨fun x hx=>?_,fun t=>?_⟩
   ·rw [hget]
    rcases List.mem_cons.mp hx with rfl|hx
    ·rw [if_pos rfl]
    ·split
     ·rfl
     ·exact p1 x hx
   ·rw [hget]
    split
    ·exact .inl rfl
    ·exact p2 t
  ·cases e
theorem Rel.name (h:Rel N w0 φ σ w) {k:Bk} {b:Nat} (hn:σ.new k=some (b,σ')):Rel N w0 φ σ' w:=by
 obtain ⟨rfl,hnx,hget⟩:=sW hn
 have hno:=(h.ah σ.ah jp).1
 refine ⟨h.n0,h.bel,fun i j pi pj hi hj e hNi li lj=>?_,h.lo,fun i k' pi hi hpi hlt=>?_,fun i k' pi hi hpi=>?_,fun i hi=>?_⟩
 ·have ei:i≠σ.ah:=fun e=>by rw [e,hno] at hi;cases hi
  have ej:j≠σ.ah:=fun e=>by rw [e,hno] at hj;cases hj
  rw [hget,if_neg ei] at li
  rw [hget,if_neg ej] at lj
  exact h.inj i j pi pj hi hj e hNi li lj
 ·have ei:i≠σ.ah:=fun e=>by rw [e,hno] at hpi;cases hpi
  rw [hget,if_neg ei] at hi
  exact h.fz i k' pi hi hpi hlt
 ·have ei:i≠σ.ah:=fun e=>by rw [e,hno] at hpi;cases hpi
  rw [hget,if_neg ei] at hi
  exact h.blk i k' pi hi hpi
 ·rw [hnx] at hi
  rw [hget,if_neg jb]
  exact h.ah i jb
structure PO (P:Program) (K:Nat) (ops:Array Oper) (pt:List (List Nat)) (all:List DO) (bZ bf:Tr V) (res:List Rs) (p:iD):Prop where
 op : ∃ o us os,ops[p.i]?=some o∧JD P K ops o p.o=true∧(∀ u∈us,(pt.getD p.i []).contains u=true)∧(∀ t∈os,∀ y∈all,y.o.dst=some t→(pt.getD y.i []).contains p.i=true) ∧
  ∃ res',(∀ r∈res',r∈res)∧Jq bZ bf res' us os=some p.tm
 res:⟨p.i,p.o.dst,p.v⟩∈res
 gt:gate p.o.g p.tm=some p.gt
 no:p.gt=false→p.v = .tnil
 q:p.o.op.kind = .q→p.o.op.looks=false→p.gt=true→∀ σ,dB p.o.op p.tm σ=some p.v
 k:yQ p.o.op.kind=true
 n:p.o.op.kind = .n→p.gt=true→∃ l vf b,kC p.o.op p.tm=some (l,vf)∧p.nm=some b∧p.v=vf b
structure Names (φ:Ph) (L:Nat→Prop) (σ:St) (pd:List iD):Prop where
 lt : ∀ p∈pd,∀ b,p.nm=some b→b<σ.ah
 free : ∀ p∈pd,∀ b,p.nm=some b→¬ L p.i→φ b=none
 apart : ∀ p∈pd,∀ p'∈pd,∀ b,p.nm=some b→p'.nm=some b→p.i=p'.i
theorem NM {K:Nat} {ops:Array Oper} {pt:List (List Nat)} {ds:List Nat} {all:List DO} {bZ bf:Tr V} {L:Nat→Prop} {m:Nat} : ∀ (qs:List DO) (σ:St) (res:List Rs) (pd:List iD) (σ' : St) (res' : List Rs) (pd' : List iD),rJ bZ bf qs σ res pd=some (σ',res',pd') →
  (∀ x∈qs,aaG P K ops pt ds x=true)→(∀ x∈qs,∀ t∈x.os,∀ y∈all,y.o.dst=some t→(pt.getD y.i []).contains x.i=true)→(∀ x∈qs,¬ L x.i)→Rel N w0 φ σ w→(∀ p∈pd,PO P K ops pt all bZ bf res p)→Names φ L σ pd→m≤σ.ah→(∀ p∈pd,∀ b,p.nm=some b→m≤b) →
  Rel N w0 φ σ' w∧(∀ p∈pd',PO P K ops pt all bZ bf res' p)∧Names φ L σ' pd'∧σ.ah≤σ'.ah∧(∀ r,r∈res'↔r∈res∨∃ x∈qs,∃ v,r=⟨x.i,x.o.dst,v⟩∧r∈res')∧(∀ i,(∃ p∈pd',p.i=i)↔(∃ p∈pd,p.i=i)∨∃ x∈qs,x.i=i)∧(∀ p∈pd',∀ b,p.nm=some b→m≤b)
 | [],σ,res,pd,σ',res',pd',h,hd,hos,hL,hR,hP,hN,hm,hb=>by
  simp only [rJ,Option.some.injEq,Prod.mk.injEq] at h
  obtain ⟨rfl,rfl,rfl⟩:=h
  exact ⟨hR,hP,hN,jp,fun r=>⟨.inl,fun h=>h.elim id fun ⟨x,hx,_⟩=>by cases hx⟩,fun i=>⟨.inl,fun h=>h.elim id fun ⟨x,hx,_⟩=>by cases hx⟩,hb⟩
 | x::qs,σ,res,pd,σ',res',pd',h,hd,hos,hL,hR,hP,hN,hm,hb=>by
  have hx:=hd x kc
  unfold aaG at hx
  unfold rJ at h
  split at h
  ·next tm Ht =>
   split at hx
   ·next o ho =>
    simp only [Bool.and_eq_true,List.all_eq_true] at hx
    obtain ⟨x1,x2,x3⟩:=hx
    have step : ∀ (v:V) (gt:Bool) (nm:Option Nat) (σ1:St),Rel N w0 φ σ1 w→σ.ah≤σ1.ah→gate x.o.g tm=some gt→(gt=false→v = .tnil)→(x.o.op.kind = .q→x.o.op.looks=false→gt=true→∀ σ,dB x.o.op tm σ=some v)→yQ x.o.op.kind=true →
      (x.o.op.kind = .n→gt=true→∃ l vf b,kC x.o.op tm=some (l,vf)∧nm=some b∧v=vf b)→(∀ b,nm=some b→b=σ.ah∧b<σ1.ah) →
      rJ bZ bf qs σ1 (⟨x.i,x.o.dst,v⟩::res) (⟨x.i,x.o,tm,v,gt,nm⟩::pd)=some (σ',res',pd') →
      Rel N w0 φ σ' w∧(∀ p∈pd',PO P K ops pt all bZ bf res' p)∧Names φ L σ' pd'∧σ.ah≤σ'.ah∧(∀ r,r∈res'↔r∈res∨∃ y∈x::qs,∃ v,r=⟨y.i,y.o.dst,v⟩∧r∈res')∧(∀ i,(∃ p∈pd',p.i=i)↔(∃ p∈pd,p.i=i)∨∃ y∈x::qs,y.i=i)∧(∀ p∈pd',∀ b,p.nm=some b→m≤b):=by
     intro v gt nm σ1 hR1 hle hgt hno hq hk hn hnm hrun
     obtain ⟨r1,r2,r3,r4,r5,r6,r7⟩:=NM (m:=m) qs σ1 _ _ σ' res' pd' hrun (fun y hy=>hd y (by simp [hy])) (fun y hy=>hos y (by simp [hy])) (fun y hy=>hL y (by simp [hy])) hR1 (fun p hp=>by
       rcases List.mem_cons.mp hp with rfl|hp
       ·exact ⟨⟨o,x.us,x.os,ho,x1,x2,fun t ht y hy e=>hos x kc t ht y hy e,res,fun r hr=>by simp [hr],Ht⟩,by simp,hgt,hno,hq,hk,hn⟩
       ·obtain ⟨⟨o',us',os',q1,q2,q3,q6,res2,q4,q5⟩,p2,p3,p4,p5,p6,p7⟩:=hP p hp
        exact ⟨⟨o',us',os',q1,q2,q3,q6,res2,fun r hr=>by simp [q4 r hr],q5⟩,by simp [p2],p3,p4,p5,p6,p7⟩) ⟨fun p hp b hb=>by
       rcases List.mem_cons.mp hp with rfl|hp
       ·exact (hnm b hb).2
       ·exact Nat.lt_of_lt_of_le (hN.lt p hp b hb) hle,fun p hp b hb hl=>by
       rcases List.mem_cons.mp hp with rfl|hp
       ·rw [(hnm b hb).1];exact (hR.ah _ jp).1
       ·exact hN.free p hp b hb hl,fun p hp p' hp' b hb hb'=>by
       rcases List.mem_cons.mp hp with rfl|hp <;> rcases List.mem_cons.mp hp' with rfl|hp'
       ·rfl
       ·exfalso
        have:=hN.lt p' hp' b hb'
        rw [(hnm b hb).1] at this
        omega
       ·exfalso
        have:=hN.lt p hp b hb
        rw [(hnm b hb').1] at this
        omega
       ·exact hN.apart p hp p' hp' b hb hb'⟩ jb (fun p hp b hb'=>by
       rcases List.mem_cons.mp hp with rfl|hp
       ·rw [(hnm b hb').1];exact hm
       ·exact hb p hp b hb')
     refine ⟨r1,r2,r3,jb,fun r=>?_,fun i=>?_,r7⟩
     ·constructor
      ·intro h0
       rcases (r5 r).mp h0 with h|⟨y,hy,u,e1,e2⟩
       ·rcases List.mem_cons.mp h with e|h
        ·exact .inr ⟨x,by simp,v,e,h0⟩
        ·exact .inl h
       ·exact .inr ⟨y,by simp [hy],u,e1,e2⟩
      ·rintro (h|⟨y,hy,u,e1,e2⟩)
       ·exact (r5 r).mpr (.inl (by simp [h]))
       ·exact e2
     ·rw [r6 i]
      constructor
      ·rintro (⟨p,hp,e⟩|⟨y,hy,e⟩)
       ·rcases List.mem_cons.mp hp with rfl|hp
        ·exact .inr ⟨x,by simp,e⟩
        ·exact .inl ⟨p,hp,e⟩
       ·exact .inr ⟨y,by simp [hy],e⟩
      ·rintro (⟨p,hp,e⟩|⟨y,hy,e⟩)
       ·exact .inl ⟨p,by simp [hp],e⟩
       ·rcases List.mem_cons.mp hy with rfl|hy
        ·exact .inl ⟨_,List.mem_cons_self,e⟩
        ·exact .inr ⟨y,hy,e⟩
    split at h
    ·next hg =>
     split at h
     ·next hk =>
      split at h
      ·next v hv =>
       exact step v true none σ hR jp hg (fun e=>by cases e) (fun _ hl _ σ2=>by rw [WI hk hl tm σ2 σ];exact hv) (by rw [hk];rfl) (fun e=>by rw [hk] at e;cases e) (fun b hb=>by cases hb) h
      ·cases h
     ·next hk =>
      split at h
      ·next c vf hc =>
       split at h
       ·next b σ1 hnew =>
        obtain ⟨hb',hnx,-⟩:=sW hnew
        subst hb'
        exact step _ true (some σ.ah) σ1 (hR.name hnew) jb hg (fun e=>by cases e) (fun e=>by rw [hk] at e;cases e) (by rw [hk];rfl) (fun _ _=>⟨c,vf,σ.ah,hc,rfl,rfl⟩) (fun b hb=>by cases hb;exact ⟨rfl,jb⟩) h
       ·cases h
      ·cases h
     ·cases h
    ·next hg =>
     split at h
     ·next hk=>exact step _ false none σ hR jp hg (fun _=>rfl) (fun _ _ e=>by cases e) (by rw [hk];rfl) (fun e=>by rw [hk] at e;cases e) (fun b hb=>by cases hb) h
     ·next hk=>exact step _ false none σ hR jp hg (fun _=>rfl) (fun _ _ e=>by cases e) (by rw [hk];rfl) (fun _ e=>by cases e) (fun b hb=>by cases hb) h
     ·cases h
    ·cases h
   ·cases hx
  ·cases h
end
end Go.Proofs.Xe
