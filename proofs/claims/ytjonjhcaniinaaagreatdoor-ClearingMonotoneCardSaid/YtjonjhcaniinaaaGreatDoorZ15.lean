/- The bH: a region that draws its order. -/
import Derived.Test.YtjonjhcaniinaaaGreatDoorZ14
import Derived.Orders
set_option linter.unusedSimpArgs false
set_option linter.unusedVariables false
namespace Go.Proofs.Xe
open Go.RowKit Go.Proofs.Ins
def alW (op:Op):oI→Bool
 | .call g args=>(match op with|.call c=>(match c.callee with|.value f=>qZ f g && TP c.args.toList args|_=>false)|_=>false)
 | _=>false
def aa8 (K:Nat):Option Nat→Option Nat→Bool
 | none,none=>true
 | some d,some e=>Nat.beq d e && Nat.blt d K
 | _,_=>false
def aiC (ops:Array Oper):Option (Nat×Bool)→Option (Nat×Bool)→Bool
 | none,none=>true
 | some (j,b),some (t,c)=>(match (ops[j]?).bind (·.dst) with|some d=>Nat.beq d t|none=>false) && (b == c)
 | _,_=>false
def H6 (P:Program) (K:Nat) (ops:Array Oper) (o:Oper) (ao:AO):Bool :=
 aiC ops o.guard ao.g && (aa8 K o.dst ao.dst && (match ao.op.kind with|.q=>iP P o.op ao.op|.n=>Jw P o.op ao.op|.a=>Ew P o.op ao.op|.c=>alW o.op ao.op))
def okF (P : Program) (f : Nat) : Prop := ∃ fn, P.funcs[f]? = some fn ∧ fn.body.isNone = false ∧ (fn.name == "runtime.NumGoroutine") = false
section
variable {P:Program} {N:Nat} {w0 w w' : World} {φ φ' : Ph} {σ σ' : St} {tm tm' : Tr V} {a:Act} {v:V}
def Nj (P:Program) (cl:Nat→List V→St→Option (V×St)):Prop :=
 ∀ (f:Nat) (args:List V) (σ:St) (v:V) (σ' : St),cl f args σ=some (v,σ')→∀ (N:Nat) (w0:World) (φ:Ph) (w:World) (aF:Array Value),Rel N w0 φ σ w→sV φ args aF.toList →
  okF P f∧Calls P f aF w fun e w'=>∃ cv,e = .returned cv∧∃ φ',Ext σ.ah φ φ'∧Rel N w0 φ' σ' w'∧RV φ' v cv∧σ.ah≤σ'.ah
theorem sV.append : ∀ {l:List V} {r:List Value} {l' : List V} {r' : List Value},sV φ l r→sV φ l' r'→sV φ (l ++ l') (r ++ r')
 | [],[],_,_,_,h=>h
 | _::_,_::_,_,_,hv,h=>⟨hv.1,sV.append hv.2 h⟩
 | [],_::_,_,_,hv,_=>hv.elim
 | _::_,[],_,_,hv,_=>hv.elim
theorem jJ.ahw : ∀ {l:List B} {r:List Value},jJ φ l r→sV φ (l.map .c) r
 | [],[],_=>trivial
 | _::_,_::_,hv=>⟨hv.1,jJ.ahw hv.2⟩
 | [],_::_,hv=>hv.elim
 | _::_,[],hv=>hv.elim
theorem zq {K:Nat} {d e:Option Nat} (h:aa8 K d e=true):d=e∧∀ i,d=some i→i<K:=by
 unfold aa8 at h
 split at h
 ·exact ⟨rfl,fun i h=>by cases h⟩
 ·next x y =>
  rw [Bool.and_eq_true] at h
  have h1:=Nat.eq_of_beq_eq_true h.1
  subst h1
  exact ⟨rfl,fun i hi=>by cases hi;exact Nat.le_of_ble_eq_true h.2⟩
 ·cases h
theorem RT.put (h:RT φ tm a) {d:Option Nat} {cv:Value} (hs:zo tm d v=some tm') (hv:RV φ v cv) (hd : ∀ i,d=some i→i<a.tmps.size):RT φ tm' (a.put d cv):=by
 cases d with
 | none =>
  simp only [zo,Option.some.injEq] at hs
  subst hs
  exact h
 | some d =>
  simp only [zo] at hs
  have hlt:=hd d rfl
  intro t u ht
  rw [Tr.get_put _ _ _ _ _ t hs] at ht
  simp only [Act.put,Array.getD_eq_getD_getElem?,Array.getElem?_setIfInBounds]
  by_cases e:d=t
  ·subst e
   rw [if_pos rfl] at ht
   cases ht
   simp [hlt,hv]
  ·rw [if_neg (fun e2=>e e2.symm)] at ht
   rw [if_neg e]
   have:=h t u ht
   simpa using this
theorem TW [TQ:kZ P] {cl:Nat→List V→St→Option (V×St)} (hcl:Nj P cl) {K:Nat} {ops:Array Oper} {o:Oper} {ao:AO} (hi:H6 P K ops o ao=true) (hR:Rel N w0 φ σ w) (ht:RT φ tm a) (h:kK cl ao.op tm σ=some (v,σ'))
  {next:Act→World→Prop} {Q:Exit→Act→World→Prop} (hn : ∀ cv φ' w',Ext σ.ah φ φ'→Rel N w0 φ' σ' w'→RV φ' v cv→σ.ah≤σ'.ah→next (a.put o.dst cv) w'):o.wp P a w next Q:=by
 unfold H6 at hi
 simp only [Bool.and_eq_true] at hi
 obtain ⟨-,-,hi⟩:=hi
 unfold kK at h
 unfold Oper.wp
 cases hk:ao.op.kind with
 | q =>
  rw [hk] at hi h
  simp only at hi h
  split at h
  ·next u hu =>
   cases h
   obtain ⟨cv,h1,h2⟩:=Hr hR hi hu ht o rfl
   rw [h1]
   exact hn cv φ w (Ext.refl _ _) hR h2 (Nat.le_refl _)
  ·cases h
 | n =>
  rw [hk] at hi h
  simp only at hi h
  split at h
  ·next l vf hl =>
   split at h
   ·next b σ'' hnew =>
    cases h
    obtain ⟨cs,T,cv,h1,h2,h3⟩:=Hw (w:=w) hi hl ht o rfl
    rw [h1]
    obtain ⟨hb,hnx,-⟩:=qJ hnew
    subst hb
    refine hn cv (AZ φ σ.ah (w.heap.size,0)) _ (uz φ σ.ah _) (hR.new hnew (World.grownBy_alloc w _ _) hR.size (by simp) (fun i p hi' _ e=>?_) (.inl ⟨aeJ,cs,T,heap_alloc_new w _,?_,?_,fun e t h9=>by cases h9⟩)) (h3 _ _ (fK _ _ _)) (by omega)
    ·have:=hR.lo i p hi'
     omega
    ·rw [List.take_of_length_le (by rw [h2.length];exact Nat.le_refl _)]
     exact h2
    ·rw [h2.length,Array.length_toList]
     exact Nat.le_refl _
   ·cases h
  ·cases h
 | a =>
  rw [hk] at hi h
  simp only at hi h
  obtain ⟨nx,cv,w1,h1,h2,φ',h3,h4,h5,h6⟩:=TV hR hi h ht o rfl
  rw [h1]
  rcases h2 with rfl|⟨rfl,rfl⟩
  ·exact hn cv φ' w1 h3 h4 h5 h6
  ·exact hn undef φ' w1 h3 h4 h5 h6
 | c =>
  rw [hk] at hi h
  simp only at hi h
  split at h
  ·next f args hc =>
   unfold Wj at hc
   split at hc
   ·next g alX hop =>
    rw [hop] at hi
    simp only [alW] at hi
    split at hi
    ·next c hoc =>
     split at hi
     ·next F hF =>
      rw [Bool.and_eq_true] at hi
      have hg:=bM hi.1 ht
      have has:=Px ht hi.2
      split at hc
      ·next f' caps he =>
       cases hc
       rw [he] at hg
       obtain ⟨r,e1,hr⟩:=hg
       have hargs:sV φ (List.map (fun x=>O.ev tm x) alX ++ caps.map .c) ((c.args.map a.eval) ++ r).toList:=by
        rw [Array.toList_append,Array.toList_map]
        exact has.append hr.ahw
       obtain ⟨⟨fn,hf1,hf2,hf3⟩,hC⟩:=hcl f _ σ v σ' h N w0 φ w _ hR hargs
       have hrun:(execOp a.eval o).run P w = .ok (.enter f ((c.args.map a.eval) ++ r)) w:=by
        have aod : ¬ fn.body=none:=fun e=>by rw [e] at hf2;cases hf2
        have aoe : ¬ fn.name = "runtime.NumGoroutine" := by simpa using hf3
        simp [execOp,hoc,resolve,hF,e1,Deferred.ofValue,invoke,callFunc,hf1,aod,aoe]
       rw [hrun]
       refine Calls.mono hC fun e w2 he=>?_
       obtain ⟨cv,rfl,φ',q1,q2,q3,q4⟩:=he
       exact hn cv φ' w2 q1 q2 q3 q4
      ·cases hc
     ·cases hi
    ·cases hi
   ·cases hc
  ·cases h
theorem C9 {ops:Array Oper} {o:Oper} {g:Option (Nat×Bool)} {b:Bool} (hi:aiC ops o.guard g=true) (ht:RT φ tm a) (h:gate g tm=some b):Region.wanted o (yielded ops a.tmps)=b:=by
 unfold Region.wanted
 unfold aiC at hi
 split at hi
 ·rename_i hg
  simp only [gate,Option.some.injEq] at h
  rw [hg]
  exact h
 ·next j want t c hg =>
  rw [hg]
  simp only [Bool.and_eq_true] at hi
  obtain ⟨h1,h2⟩:=hi
  have h2:=eq_of_beq h2
  subst h2
  split at h1
  ·next d hd =>
   have h1:=Nat.eq_of_beq_eq_true h1
   subst h1
   have hv:=RV.tm ht d
   simp only [gate] at h
   simp only [yielded,hd,Option.bind_some]
   rw [Array.getD_eq_getD_getElem?] at hv
   split at h
   ·next x e =>
    rw [e] at hv
    cases hl:a.tmps[d]? with
    | none=>rw [hl] at hv;simp only [Option.getD_none,RV,RB,undef,reduceCtorEq] at hv
    | some u =>
     rw [hl] at hv
     have hv:u = .bool x:=hv
     subst hv
     cases h
     show (some x == some want)=(x == want)
     cases x <;> cases want <;> rfl
   ·next e =>
    rw [e] at hv
    cases h
    cases hl:a.tmps[d]? with
    | none=>rfl
    | some u =>
     rw [hl] at hv
     have hv:u = .tuple #[]:=hv
     subst hv
     rfl
   ·cases h
  ·cases h1
 ·cases hi
theorem H7 [TQ:kZ P] {cl:Nat→List V→St→Option (V×St)} (hcl:Nj P cl) {K i:Nat} {ops:Array Oper} {o:Oper} {ao:AO} (hoi:ops[i]?=some o) (hi:H6 P K ops o ao=true) (hR:Rel N w0 φ σ w) (ht:RT φ tm a) (h:stepG cl ao tm σ=some (v,σ'))
  {next:Act→World→Prop} {Q:Exit→Act→World→Prop} (hn : ∀ cv φ' w',Ext σ.ah φ φ'→Rel N w0 φ' σ' w'→RV φ' v cv→σ.ah≤σ'.ah→next (a.put o.dst cv) w'):wpOp P ops Q i next a w:=by
 have hi':=hi
 unfold H6 at hi'
 simp only [Bool.and_eq_true] at hi'
 unfold stepG at h
 unfold wpOp
 simp only [hoi]
 split at h
 ·next hg =>
  rw [if_pos (C9 hi'.1 ht hg)]
  exact .inl (TW hcl hi hR ht h hn)
 ·next hg =>
  rw [if_neg (by rw [C9 hi'.1 ht hg];simp)]
  cases h
  exact hn undef φ w (Ext.refl _ _) hR rfl (Nat.le_refl _)
 ·cases h
def After (N:Nat) (w0:World) (φ:Ph) (σ σ' : St) (tm' : Tr V) (a:Act) (K:Nat) (a' : Act) (w' : World):Prop :=
 a'.defers=a.defers∧K≤a'.tmps.size∧∃ φ',Ext σ.ah φ φ'∧Rel N w0 φ' σ' w'∧RT φ' tm' a'∧σ.ah≤σ'.ah
theorem After.trans {σ2:St} {tm2:Tr V} {a1 a2:Act} {w2:World} {K:Nat} {φ1:Ph} (h1:a1.defers=a.defers) (h2:Ext σ.ah φ φ1) (h3:σ.ah≤σ'.ah) (h:After N w0 φ1 σ' σ2 tm2 a1 K a2 w2):After N w0 φ σ σ2 tm2 a K a2 w2:=by
 obtain ⟨q1,q2,φ',q3,q4,q5,q6⟩:=h
 exact ⟨q1.trans h1,q2,φ',h2.trans q3 h3,q4,q5,Nat.le_trans h3 q6⟩
theorem put_defers (a:Act) (d:Option Nat) (v:Value):(a.put d v).defers=a.defers:=by cases d <;> rfl
theorem xq (a:Act) (d:Option Nat) (v:Value):(a.put d v).tmps.size=a.tmps.size:=by cases d <;> simp [Act.put]
def H9 (P:Program) (K:Nat) (ops:Array Oper):List Oper→List AO→Bool
 | [],[]=>true
 | o::r,x::l=>H6 P K ops o x && H9 P K ops r l
 | _,_=>false
theorem DZ [TQ:kZ P] {cl:Nat→List V→St→Option (V×St)} (hcl:Nj P cl) {K:Nat} {ops:Array Oper} {Q:Exit→Act→World→Prop} : ∀ (os:List Oper) (l:List AO) (s:Nat) (tm:Tr V) (σ:St) (φ:Ph) (a:Act) (w:World),H9 P K ops os l=true →
  (∀ j o,os[j]?=some o→ops[s+j]?=some o)→Rel N w0 φ σ w→RT φ tm a→K≤a.tmps.size→ng cl l tm σ=some (tm',σ')→(∀ a' w',After N w0 φ σ σ' tm' a K a' w'→Q .normal a' w')→wpOps P ops Q (List.range' s os.length) a w
 | [],[],s,tm,σ,φ,a,w,_,_,hR,ht,hK,h,hQ=>by
  simp only [ng,Option.some.injEq,Prod.mk.injEq] at h
  obtain ⟨rfl,rfl⟩:=h
  exact hQ a w ⟨rfl,hK,φ,Ext.refl _ _,hR,ht,Nat.le_refl _⟩
 | [],_::_,_,_,_,_,_,_,h,_,_,_,_,_,_=>by cases h
 | _::_,[],_,_,_,_,_,_,h,_,_,_,_,_,_=>by cases h
 | o::os,x::l,s,tm,σ,φ,a,w,hi,ho,hR,ht,hK,h,hQ=>by
  unfold H9 at hi
  rw [Bool.and_eq_true] at hi
  obtain ⟨hi1,hi2⟩:=hi
  have hos:ops[s]?=some o:=by simpa using ho 0 o rfl
  have aiD:=hi1
  unfold H6 at aiD
  simp only [Bool.and_eq_true] at aiD
  obtain ⟨-,g2,-⟩:=aiD
  obtain ⟨d1,d2⟩:=zq g2
  unfold ng at h
  split at h
  ·next v1 σ1 hs =>
   split at h
   ·next Dc Nk =>
    rw [List.length_cons,List.range'_succ,wpOps_cons]
    refine H7 hcl hos hi1 hR ht hs fun cv φ1 w1 e1 r1 v1' n1=>?_
    have hput:RT φ1 Dc (a.put o.dst cv):=by
     rw [d1]
     exact (ht.ext e1 hR.old).put Nk v1' (fun i hi=>by have:=d2 i (d1.trans hi);omega)
    refine DZ hcl os l (s+1) Dc σ1 φ1 _ w1 hi2 (fun j o' hj=>by rw [show s+1+j=s+(j+1) by omega];exact ho (j+1) o' (by simpa using hj)) r1 hput (by rw [xq];exact hK) h fun a' w' hA=>hQ a' w' ?_
    exact hA.trans (put_defers _ _ _) e1 n1
   ·cases h
  ·cases h
theorem PK [TQ:kZ P] {cl:Nat→List V→St→Option (V×St)} (hcl:Nj P cl) {K id:Nat} {ops:Array Oper} {Q:Exit→Act→World→Prop} {l:List AO} (hi:H9 P K ops ops.toList l=true)
  (hR:Rel N w0 φ σ w) (ht:RT φ tm a) (hK:K≤a.tmps.size) (h:ng cl l tm σ=some (tm',σ')) (hQ : ∀ a' w',After N w0 φ σ σ' tm' a K a' w'→Q .normal a' w'):(Code.region id ops false).wp P Q a w:=by
 refine wp_region ?_
 have:=DZ (ops:=ops) (Q:=Q) hcl ops.toList l 0 tm σ φ a w hi (fun j o hj=>by simpa using hj) hR ht hK h hQ
 rwa [Array.length_toList,← List.range_eq_range'] at this
end
def Dr.Df:Dr→List DO
 | .fin qs=>qs
 | .act qs x r=>qs ++ x::r.Df
def xu:Kd→Bool
 | .q|.n=>true
 | _=>false
def xw (pt:List (List Nat)):Dr→Bool
 | .fin qs=>qs.all fun y=>xu y.o.op.kind
 | .act qs x r=>(qs.all fun y=>xu y.o.op.kind) && (!xu x.o.op.kind && (r.Df.all (fun y=>(pt.getD y.i []).contains x.i) && xw pt r))
def aeY (ops:Array Oper) (pt:List (List Nat)) (i:Nat):Bool :=
 match ops[i]? with
 | some o=>(pt.getD i []).all (fun p=>o.after.toList.any fun e=>Region.binds .any e && (Nat.beq e.on p || (pt.getD e.on []).contains p)) && o.after.toList.all (fun e=>!Region.binds .any e || Nat.blt e.on i)
 | none=>false
def Yk (P:Program) (K:Nat) (ops:Array Oper) (pt:List (List Nat)) (ds:List Nat) (x:DO):Bool :=
 match ops[x.i]? with
 | some o=>H6 P K ops o x.o && (x.us.all (fun u=>(pt.getD x.i []).contains u) && (match x.o.dst with|some d=>ds.contains d|none=>true))
 | none=>false
def lX:List DO→Bool
 | []=>true
 | x::l=>l.all (fun y=>!Nat.beq x.i y.i && (match x.o.dst,y.o.dst with|some d,some e=>!Nat.beq d e|_,_=>true)) && lX l
def aa9 (P:Program) (K:Nat) (ops:Array Oper) (d:Dr) (pt:List (List Nat)) (ds:List Nat):Bool :=
 d.Df.all (Yk P K ops pt ds) && (d.Df.all (fun x=>x.os.all fun t=>d.Df.all fun y=>!(y.o.dst == some t) || (pt.getD y.i []).contains x.i)) && (lX d.Df && (xw pt d && ((List.range ops.size).all (fun i=>aeY ops pt i && d.Df.any (fun x=>Nat.beq x.i i)))))
section
variable {P:Program} {N:Nat} {w0 w w' : World} {φ φ' : Ph} {σ σ' : St} {tm tm' : Tr V} {a:Act} {v:V}
theorem TY {op:oI} (hk:op.kind = .q) (hl:op.looks=false) (tm:Tr V) (σ σ' : St):cO op tm σ=cO op tm σ':=by
 cases op <;> first|rfl|cases hl|cases hk
theorem Ia : ∀ {l:List DO},lX l=true→∀ x∈l,∀ y∈l,∀ d,x.o.dst=some d→y.o.dst=some d→x=y
 | [],_,x,hx,_,_,_,_,_=>by cases hx
 | z::l,h,x,hx,y,hy,d,e,e'=>by
  unfold lX at h
  rw [Bool.and_eq_true,List.all_eq_true] at h
  rcases List.mem_cons.mp hx with rfl|hx' <;> rcases List.mem_cons.mp hy with rfl|hy'
  ·rfl
  ·have:=h.1 y hy'
   rw [Bool.and_eq_true] at this
   rw [e,e'] at this
   simp at this
  ·have:=h.1 x hx'
   rw [Bool.and_eq_true] at this
   rw [e,e'] at this
   simp at this
  ·exact Ia h.2 x hx' y hy' d e e'
structure Lg (φ:Ph) (L:Nat→Prop) (bV aX:Tr V) (all:List DO) (res:List Rs) (a:Act):Prop where
 base:RT φ aX a
 got : ∀ r∈res,L r.i→∀ d,r.d=some d→d<a.tmps.size∧RV φ r.v (a.tmps.getD d undef)
 old : ∀ t,(∀ y∈all,y.o.dst=some t→¬ L y.i)→RV φ (bV.aj t) (a.tmps.getD t undef)
theorem Nl (h:RT φ tm a) {d:Option Nat} (hs:zo tm d v=some tm') (hv : ∀ i,d=some i→RV φ v (a.tmps.getD i undef)):RT φ tm' a:=by
 cases d with
 | none =>
  simp only [zo,Option.some.injEq] at hs
  subst hs
  exact h
 | some d =>
  simp only [zo] at hs
  intro t u ht
  rw [Tr.get_put _ _ _ _ _ t hs] at ht
  split at ht
  ·next e =>
   cases ht
   rw [e]
   exact hv d rfl
  ·exact h t u ht
theorem Kw {L:Nat→Prop} {bV aX:Tr V} {all:List DO} {res:List Rs} (h:Lg φ L bV aX all res a) : ∀ (us:List Nat) (tm:Tr V),(∀ u∈us,L u)→CV aX res us=some tm→RT φ tm a
 | [],tm,_,e=>by
  simp only [CV,Option.some.injEq] at e
  subst e
  exact h.base
 | u::us,tm,hu,e=>by
  unfold CV at e
  split at e
  ·next Dc r h1 h2 =>
   have hr:=List.find?_some h2
   have hr:r.i=u:=Nat.eq_of_beq_eq_true hr
   refine Nl (Kw h us Dc (fun x hx=>hu x (by simp [hx])) h1) e fun i hi=>?_
   exact (h.got r (List.mem_of_find?_eq_some h2) (by rw [hr];exact hu u (by simp)) i hi).2
  ·cases e
theorem PL {L:Nat→Prop} {bV aX:Tr V} {all:List DO} {res:List Rs} (h:Lg φ L bV aX all res a) {us os:List Nat} {tm:Tr V} (hu : ∀ u∈us,L u) (ho : ∀ t∈os,∀ y∈all,y.o.dst=some t→¬ L y.i) (e:G8 bV aX res us os=some tm):RT φ tm a:=by
 unfold G8 at e
 split at e
 ·next Dc h1 =>
  have h2:=Kw h us Dc hu h1
  clear h1
  induction os generalizing tm with
  | nil =>
   simp only [vW,Option.some.injEq] at e
   subst e
   exact h2
  | cons t os ih =>
   unfold vW at e
   split at e
   ·next tm2 h3 =>
    exact Nl (ih (fun t ht=>ho t (by simp [ht])) h3) e fun i hi=>by
     cases hi
     exact h.old t (ho t (by simp))
   ·cases e
 ·cases e
theorem Ky {L:Nat→Prop} {bV aX:Tr V} {all:List DO} : ∀ {res:List Rs} {tm:Tr V},Lg φ L bV aX all res a→(∀ r∈res,L r.i)→CW aX res=some tm→RT φ tm a
 | [],tm,h,_,e=>by
  simp only [CW,Option.some.injEq] at e
  subst e
  exact h.base
 | r::res,tm,h,hL,e=>by
  unfold CW at e
  split at e
  ·next Dc h1 =>
   exact Nl (Ky ⟨h.base,fun x hx=>h.got x (by simp [hx]),h.old⟩ (fun x hx=>hL x (by simp [hx])) h1) e fun i hi=>(h.got r (by simp) (hL r (by simp)) i hi).2
  ·cases e
theorem D8 : ∀ {ds:List Nat} {tm aX:Tr V},vG tm ds=some aX→(∀ d∈ds,aX.get d=none)∧∀ t,aX.get t=none∨aX.get t=tm.get t
 | [],tm,aX,e=>by
  simp only [vG,Option.some.injEq] at e
  subst e
  exact ⟨fun d hd=>(by cases hd),fun t=>.inr rfl⟩
 | d::ds,tm,aX,e=>by
  unfold vG at e
  split at e
  ·next t1 h1 =>
   obtain ⟨p1,p2⟩:=D8 h1
   have hget:=fun j=>Tr.get_put _ _ _ _ _ j e
   refine ⟨fun x hx=>?_,fun t=>?_⟩
   ·rw [hget]
    rcases List.mem_cons.mp hx with rfl|hx
    ·rw [if_pos rfl]
    ·split
     ·rfl
     ·exact p1 x hx
   ·rw [hget]
    split
    ·exact .inl rfl
    ·exact p2 t
  ·cases e
theorem Rel.name (h:Rel N w0 φ σ w) {k:Bk} {b:Nat} (hn:σ.new k=some (b,σ')):Rel N w0 φ σ' w:=by
 obtain ⟨rfl,hnx,hget⟩:=qJ hn
 have hno:=(h.ah σ.ah (Nat.le_refl _)).1
 refine ⟨h.n0,h.bel,fun i j pi pj hi hj e hNi li lj=>?_,h.lo,fun i k' pi hi hpi hlt=>?_,fun i k' pi hi hpi=>?_,fun i hi=>?_⟩
 ·have ei:i≠σ.ah:=fun e=>by rw [e,hno] at hi;cases hi
  have ej:j≠σ.ah:=fun e=>by rw [e,hno] at hj;cases hj
  rw [hget,if_neg ei] at li
  rw [hget,if_neg ej] at lj
  exact h.inj i j pi pj hi hj e hNi li lj
 ·have ei:i≠σ.ah:=fun e=>by rw [e,hno] at hpi;cases hpi
  rw [hget,if_neg ei] at hi
  exact h.fz i k' pi hi hpi hlt
 ·have ei:i≠σ.ah:=fun e=>by rw [e,hno] at hpi;cases hpi
  rw [hget,if_neg ei] at hi
  exact h.blk i k' pi hi hpi
 ·rw [hnx] at hi
  rw [hget,if_neg (by omega)]
  exact h.ah i (by omega)
structure Np (P:Program) (K:Nat) (ops:Array Oper) (pt:List (List Nat)) (all:List DO) (bV aX:Tr V) (res:List Rs) (p:fZ):Prop where
 op : ∃ o us os,ops[p.i]?=some o∧H6 P K ops o p.o=true∧(∀ u∈us,(pt.getD p.i []).contains u=true)∧(∀ t∈os,∀ y∈all,y.o.dst=some t→(pt.getD y.i []).contains p.i=true) ∧
  ∃ res',(∀ r∈res',r∈res)∧G8 bV aX res' us os=some p.tm
 res:⟨p.i,p.o.dst,p.v⟩∈res
 gt:gate p.o.g p.tm=some p.gt
 no:p.gt=false→p.v = .tnil
 q:p.o.op.kind = .q→p.o.op.looks=false→p.gt=true→∀ σ,cO p.o.op p.tm σ=some p.v
 k:xu p.o.op.kind=true
 n:p.o.op.kind = .n→p.gt=true→∃ l vf b,jG p.o.op p.tm=some (l,vf)∧p.nm=some b∧p.v=vf b
structure Names (φ:Ph) (L:Nat→Prop) (σ:St) (pd:List fZ):Prop where
 lt : ∀ p∈pd,∀ b,p.nm=some b→b<σ.ah
 free : ∀ p∈pd,∀ b,p.nm=some b→¬ L p.i→φ b=none
 apart : ∀ p∈pd,∀ p'∈pd,∀ b,p.nm=some b→p'.nm=some b→p.i=p'.i
theorem Kz {K:Nat} {ops:Array Oper} {pt:List (List Nat)} {ds:List Nat} {all:List DO} {bV aX:Tr V} {L:Nat→Prop} {m:Nat} : ∀ (qs:List DO) (σ:St) (res:List Rs) (pd:List fZ) (σ' : St) (res' : List Rs) (pd' : List fZ),pU bV aX qs σ res pd=some (σ',res',pd') →
  (∀ x∈qs,Yk P K ops pt ds x=true)→(∀ x∈qs,∀ t∈x.os,∀ y∈all,y.o.dst=some t→(pt.getD y.i []).contains x.i=true)→(∀ x∈qs,¬ L x.i)→Rel N w0 φ σ w→(∀ p∈pd,Np P K ops pt all bV aX res p)→Names φ L σ pd→m≤σ.ah→(∀ p∈pd,∀ b,p.nm=some b→m≤b) →
  Rel N w0 φ σ' w∧(∀ p∈pd',Np P K ops pt all bV aX res' p)∧Names φ L σ' pd'∧σ.ah≤σ'.ah∧(∀ r,r∈res'↔r∈res∨∃ x∈qs,∃ v,r=⟨x.i,x.o.dst,v⟩∧r∈res')∧(∀ i,(∃ p∈pd',p.i=i)↔(∃ p∈pd,p.i=i)∨∃ x∈qs,x.i=i)∧(∀ p∈pd',∀ b,p.nm=some b→m≤b)
 | [],σ,res,pd,σ',res',pd',h,hd,hos,hL,hR,hP,hN,hm,hb=>by
  simp only [pU,Option.some.injEq,Prod.mk.injEq] at h
  obtain ⟨rfl,rfl,rfl⟩:=h
  exact ⟨hR,hP,hN,Nat.le_refl _,fun r=>⟨.inl,fun h=>h.elim id fun ⟨x,hx,_⟩=>by cases hx⟩,fun i=>⟨.inl,fun h=>h.elim id fun ⟨x,hx,_⟩=>by cases hx⟩,hb⟩
 | x::qs,σ,res,pd,σ',res',pd',h,hd,hos,hL,hR,hP,hN,hm,hb=>by
  have hx:=hd x (by simp)
  unfold Yk at hx
  unfold pU at h
  split at h
  ·next tm Nk =>
   split at hx
   ·next o ho =>
    simp only [Bool.and_eq_true,List.all_eq_true] at hx
    obtain ⟨x1,x2,x3⟩:=hx
    have step : ∀ (v:V) (gt:Bool) (nm:Option Nat) (σ1:St),Rel N w0 φ σ1 w→σ.ah≤σ1.ah→gate x.o.g tm=some gt→(gt=false→v = .tnil)→(x.o.op.kind = .q→x.o.op.looks=false→gt=true→∀ σ,cO x.o.op tm σ=some v)→xu x.o.op.kind=true →
      (x.o.op.kind = .n→gt=true→∃ l vf b,jG x.o.op tm=some (l,vf)∧nm=some b∧v=vf b)→(∀ b,nm=some b→b=σ.ah∧b<σ1.ah) →
      pU bV aX qs σ1 (⟨x.i,x.o.dst,v⟩::res) (⟨x.i,x.o,tm,v,gt,nm⟩::pd)=some (σ',res',pd') →
      Rel N w0 φ σ' w∧(∀ p∈pd',Np P K ops pt all bV aX res' p)∧Names φ L σ' pd'∧σ.ah≤σ'.ah∧(∀ r,r∈res'↔r∈res∨∃ y∈x::qs,∃ v,r=⟨y.i,y.o.dst,v⟩∧r∈res')∧(∀ i,(∃ p∈pd',p.i=i)↔(∃ p∈pd,p.i=i)∨∃ y∈x::qs,y.i=i)∧(∀ p∈pd',∀ b,p.nm=some b→m≤b):=by
     intro v gt nm σ1 hR1 hle hgt hno hq hk hn hnm hrun
     obtain ⟨r1,r2,r3,r4,r5,r6,r7⟩:=Kz (m:=m) qs σ1 _ _ σ' res' pd' hrun (fun y hy=>hd y (by simp [hy])) (fun y hy=>hos y (by simp [hy])) (fun y hy=>hL y (by simp [hy])) hR1 (fun p hp=>by
       rcases List.mem_cons.mp hp with rfl|hp
       ·exact ⟨⟨o,x.us,x.os,ho,x1,x2,fun t ht y hy e=>hos x (by simp) t ht y hy e,res,fun r hr=>by simp [hr],Nk⟩,by simp,hgt,hno,hq,hk,hn⟩
       ·obtain ⟨⟨o',us',os',q1,q2,q3,q6,res2,q4,q5⟩,p2,p3,p4,p5,p6,p7⟩:=hP p hp
        exact ⟨⟨o',us',os',q1,q2,q3,q6,res2,fun r hr=>by simp [q4 r hr],q5⟩,by simp [p2],p3,p4,p5,p6,p7⟩) ⟨fun p hp b hb=>by
       rcases List.mem_cons.mp hp with rfl|hp
       ·exact (hnm b hb).2
       ·exact Nat.lt_of_lt_of_le (hN.lt p hp b hb) hle,fun p hp b hb hl=>by
       rcases List.mem_cons.mp hp with rfl|hp
       ·rw [(hnm b hb).1];exact (hR.ah _ (Nat.le_refl _)).1
       ·exact hN.free p hp b hb hl,fun p hp p' hp' b hb hb'=>by
       rcases List.mem_cons.mp hp with rfl|hp <;> rcases List.mem_cons.mp hp' with rfl|hp'
       ·rfl
       ·exfalso
        have:=hN.lt p' hp' b hb'
        rw [(hnm b hb).1] at this
        omega
       ·exfalso
        have:=hN.lt p hp b hb
        rw [(hnm b hb').1] at this
        omega
       ·exact hN.apart p hp p' hp' b hb hb'⟩ (by omega) (fun p hp b hb'=>by
       rcases List.mem_cons.mp hp with rfl|hp
       ·rw [(hnm b hb').1];exact hm
       ·exact hb p hp b hb')
     refine ⟨r1,r2,r3,by omega,fun r=>?_,fun i=>?_,r7⟩
     ·constructor
      ·intro h0
       rcases (r5 r).mp h0 with h|⟨y,hy,u,e1,e2⟩
       ·rcases List.mem_cons.mp h with e|h
        ·exact .inr ⟨x,by simp,v,e,h0⟩
        ·exact .inl h
       ·exact .inr ⟨y,by simp [hy],u,e1,e2⟩
      ·rintro (h|⟨y,hy,u,e1,e2⟩)
       ·exact (r5 r).mpr (.inl (by simp [h]))
       ·exact e2
     ·rw [r6 i]
      constructor
      ·rintro (⟨p,hp,e⟩|⟨y,hy,e⟩)
       ·rcases List.mem_cons.mp hp with rfl|hp
        ·exact .inr ⟨x,by simp,e⟩
        ·exact .inl ⟨p,hp,e⟩
       ·exact .inr ⟨y,by simp [hy],e⟩
      ·rintro (⟨p,hp,e⟩|⟨y,hy,e⟩)
       ·exact .inl ⟨p,by simp [hp],e⟩
       ·rcases List.mem_cons.mp hy with rfl|hy
        ·exact .inl ⟨_,List.mem_cons_self,e⟩
        ·exact .inr ⟨y,hy,e⟩
    split at h
    ·next hg =>
     split at h
     ·next hk =>
      split at h
      ·next v hv =>
       exact step v true none σ hR (Nat.le_refl _) hg (fun e=>by cases e) (fun _ hl _ σ2=>by rw [TY hk hl tm σ2 σ];exact hv) (by rw [hk];rfl) (fun e=>by rw [hk] at e;cases e) (fun b hb=>by cases hb) h
      ·cases h
     ·next hk =>
      split at h
      ·next c vf hc =>
       split at h
       ·next b σ1 hnew =>
        obtain ⟨hb',hnx,-⟩:=qJ hnew
        subst hb'
        exact step _ true (some σ.ah) σ1 (hR.name hnew) (by omega) hg (fun e=>by cases e) (fun e=>by rw [hk] at e;cases e) (by rw [hk];rfl) (fun _ _=>⟨c,vf,σ.ah,hc,rfl,rfl⟩) (fun b hb=>by cases hb;exact ⟨rfl,by omega⟩) h
       ·cases h
      ·cases h
     ·cases h
    ·next hg =>
     split at h
     ·next hk=>exact step _ false none σ hR (Nat.le_refl _) hg (fun _=>rfl) (fun _ _ e=>by cases e) (by rw [hk];rfl) (fun e=>by rw [hk] at e;cases e) (fun b hb=>by cases hb) h
     ·next hk=>exact step _ false none σ hR (Nat.le_refl _) hg (fun _=>rfl) (fun _ _ e=>by cases e) (by rw [hk];rfl) (fun _ e=>by cases e) (fun b hb=>by cases hb) h
     ·cases h
    ·cases h
   ·cases hx
  ·cases h
end
end Go.Proofs.Xe
