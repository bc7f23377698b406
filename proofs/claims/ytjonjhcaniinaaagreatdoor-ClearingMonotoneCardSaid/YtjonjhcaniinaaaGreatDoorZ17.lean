/- The bH: rules for runs on values that are not known. -/
import Derived.Test.YtjonjhcaniinaaaGreatDoorZ16
set_option linter.unusedSimpArgs false
set_option linter.unusedVariables false
namespace Go.Proofs.Xe
open Go.RowKit Go.Proofs.Ins
def dX (P:Program) (K:Nat):AC→Code→Bool
 | .skip,.skip=>true
 | .skip,.label _=>true
 | .ops l,.region _ ops false=>H9 P K ops ops.toList l
 | .drawn d pt ds,.region _ ops true=>aa9 P K ops d pt ds
 | .seq x y,.seq a b=>dX P K x a && dX P K y b
 | .cond x y z,.cond c a b=>qZ c x && (dX P K y a && dX P K z b)
 | .block j x,.block i a=>Nat.beq i j && dX P K x a
 | .loop x,.loop a=>dX P K x a
 | .exit j,.exit i=>Nat.beq i j
 | .ret,.ret=>true
 | .bad,_=>true
 | _,_=>false
def zy (P:Program):List ResultVar→List (Nat×Option (Nat×Bool))→Bool
 | [],[]=>true
 | .tmp t::r,(i,none)::l=>Nat.beq t i && zy P r l
 | .cell t ty::r,(i,some (n,g))::l=>Nat.beq t i && (Yh P ty n g && zy P r l)
 | _,_=>false
def PN (P:Program) (f:Nat) (F:AF):Bool :=
 match P.funcs[f]? with
 | some fn=>(match fn.body with
  | some c => !(fn.name == "runtime.NumGoroutine") && (dX P fn.ntmps F.body c && zy P fn.results.toList F.res)
  | none=>false)
 | none=>false
structure KF (P:Program) (E:Env):Prop where
 fns : ∀ f F,E.fns f=some F→PN P f F=true
 orc : ∀ f args σ v σ',E.orc f args σ=some (v,σ')→okF P f∧∀ (N:Nat) (w0:World) (φ:Ph) (w:World) (aF:Array Value),Rel N w0 φ σ w→sV φ args aF.toList→Calls P f aF w fun e w'=>∃ cv,e = .returned cv∧∃ φ',Ext σ.ah φ φ'∧Rel N w0 φ' σ' w'∧RV φ' v cv∧σ.ah≤σ'.ah
section
variable {P:Program} {N:Nat} {w0 w w' : World} {φ φ' : Ph} {σ σ' : St} {tm tm' : Tr V} {a:Act} {v:V}
theorem sV.get : ∀ {l:List V} {r:List Value} (j:Nat) (x:V),sV φ l r→l[j]?=some x→∃ u,r[j]?=some u∧RV φ x u
 | _::_,u::_,0,_,hv,h=>by cases h;exact ⟨u,rfl,hv.1⟩
 | _::l,_::r,j+1,x,hv,h=>sV.get (l:=l) (r:=r) j x hv.2 (by simpa using h)
 | [],_,_,_,_,h=>by simp at h
 | _::_,[],_,_,hv,_=>hv.elim
theorem Ie : ∀ (args:List V) (i:Nat) (t t' : Tr V),AL args i t=some t'→∀ j,t'.get j=if i≤j∧j<i+args.length then args[j - i]? else t.get j
 | [],i,t,t',h,j=>by
  simp only [AL,Option.some.injEq] at h
  subst h
  rw [if_neg (by simp only [List.length_nil];omega)]
 | u::r,i,t,t',h,j=>by
  unfold AL at h
  split at h
  ·next t1 h1 =>
   rw [Ie r (i+1) t1 t' h j,Tr.get_put _ 40 _ _ _ j h1]
   simp only [List.length_cons]
   by_cases e:j=i
   ·subst e
    rw [if_neg (by omega),if_pos rfl,if_pos (by omega)]
    simp
   ·rw [if_neg e]
    by_cases hc:i+1≤j∧j<i+1+r.length
    ·rw [if_pos hc,if_pos (by omega),show j - i=(j - (i+1))+1 by omega]
     simp
    ·rw [if_neg hc,if_neg (by omega)]
  ·cases h
theorem xB (hR:Rel N w0 φ σ w) (ht:RT φ tm a) : ∀ (rs:List ResultVar) (l:List (Nat×Option (Nat×Bool))) (v:V),zy P rs l=true→kY tm σ l=some v →
  ∃ vs,(rs.mapM (fun (x:ResultVar)=>match x with|.tmp t=>(pure (a.tmps.getD t undef):Sem Value)|.cell c t=>do loadVar t (← asAddr (a.tmps.getD c undef)))).run P w = .ok vs w∧RV φ v (.tuple vs.toArray)∧vs.length=l.length
 | [],[],v,_,h=>by
  simp only [kY,Option.some.injEq] at h
  subst h
  exact ⟨[],by simp,rfl,rfl⟩
 | .tmp t::rs,(i,none)::l,v,hi,h=>by
  unfold zy at hi
  rw [Bool.and_eq_true] at hi
  have e:=Nat.eq_of_beq_eq_true hi.1
  subst e
  unfold kY at h
  split at h
  ·next u r hu hr =>
   cases h
   obtain ⟨vs,h1,h2,h3⟩:=xB hR ht rs l r hi.2 hr
   refine ⟨a.tmps.getD t undef::vs,?_,⟨_,vs,rfl,ht t u hu,h2⟩,by simp [h3]⟩
   rw [List.mapM_cons]
   simp only [Sem.run_bind,Sem.run_pure,Result.andThen_ok,h1]
  ·cases h
 | .cell t ty::rs,(i,some (n,g))::l,v,hi,h=>by
  unfold zy at hi
  simp only [Bool.and_eq_true] at hi
  obtain ⟨i1,i2,i3⟩:=hi
  have e:=Nat.eq_of_beq_eq_true i1
  subst e
  unfold kY at h
  split at h
  ·next u r hu hr =>
   cases h
   obtain ⟨vs,h1,h2,h3⟩:=xB hR ht rs l r i3 hr
   simp only [cO,V9] at hu
   have hx:=RV.tm ht t
   simp only [O.ev] at hu
   split at hu
   ·next b o e =>
    rw [e] at hx
    obtain ⟨p,hp,e2⟩:=hx
    split at hu
    ·next k hk =>
     obtain ⟨hpl,hu⟩:k.rd=true∧wV k.cells o _ _=some u:=by
      cases hpl:k.rd with
      | false=>rw [hpl] at hu;cases hu
      | true=>rw [hpl] at hu;exact ⟨rfl,hu⟩
     obtain ⟨cv,h4,h5⟩:=AU (P:=P) hR i2 hk hpl hp hu
     refine ⟨cv::vs,?_,⟨_,vs,rfl,h5,h2⟩,by simp [h3]⟩
     have hA:(asAddr (a.tmps.getD t undef)).run P w = .ok ⟨p.1,o,none⟩ w:=by rw [e2];rfl
     rw [List.mapM_cons]
     simp only [Sem.run_bind,hA,Sem.run_pure,Result.andThen_ok,h4,h1]
    ·cases hu
   ·cases hu
  ·cases h
 | [],_::_,_,h,_=>by cases h
 | .tmp _::_,[],_,h,_=>by cases h
 | .cell _ _::_,[],_,h,_=>by cases h
 | .tmp _::_,(_,some _)::_,_,h,_=>by cases h
 | .cell _ _::_,(_,none)::_,_,h,_=>by cases h
theorem PO (hR:Rel N w0 φ σ w) (ht:RT φ tm a) {fn:Func} {l:List (Nat×Option (Nat×Bool))} (hi:zy P fn.results.toList l=true) (h:result tm σ l=some v) :
  ∃ cv,(results fn a.tmps).run P w = .ok cv w∧RV φ v cv:=by
 unfold result at h
 cases hg:kY tm σ l with
 | none=>rw [hg] at h;cases h
 | some u =>
  rw [hg] at h
  obtain ⟨vs,h1,h2,h3⟩:=xB (P:=P) hR ht fn.results.toList l u hi hg
  have hrun:(results fn a.tmps).run P w = .ok (if h:vs.toArray.size=1 then vs.toArray[0] else .tuple vs.toArray) w:=by
   unfold results
   rw [Array.mapM_eq_mapM_toList]
   simp only [Sem.run_bind,Sem.run_map]
   erw [h1]
   rfl
  rw [hrun]
  split at h
  ·next v' e =>
   cases e
   cases h
   obtain ⟨x,xs,e1,e2,e3⟩:=h2
   have e3:xs=[]:=by
    have:Value.tuple xs.toArray = .tuple #[]:=e3
    simpa using this
   have e1:vs=[x]:=by
    rw [e3] at e1
    simpa using e1
   subst e1
   exact ⟨x,by simp,e2⟩
  ·next hne =>
   cases h
   refine ⟨.tuple vs.toArray,?_,h2⟩
   rw [dif_neg]
   intro h1'
   have hl1:l.length=1:=by rw [← h3];simpa using h1'
   obtain ⟨⟨i,q⟩,rfl⟩:=List.length_eq_one_iff.mp hl1
   cases q with
   | none =>
    simp only [kY] at hg
    split at hg
    ·next x y hx hy =>
     cases hy
     cases hg
     exact hne x rfl
    ·cases hg
   | some q =>
    obtain ⟨n,g⟩:=q
    simp only [kY] at hg
    split at hg
    ·next x y hx hy =>
     cases hy
     cases hg
     exact hne x rfl
    ·cases hg
def cX:AX→Exit
 | .normal=>.normal
 | .exit i=>.exit i
 | .ret=>.ret
def LoopIn (P:Program) (c:Code) (Q:Exit→Act→World→Prop) (a:Act) (w:World):Prop :=
 ∀ (b:Frame) (k:List Item) (cs:List Frame),∃ e a' w',Q e a' w'∧Arrives P (lone (b.at a (.code c :: .inLoop c::k)) cs w) b k cs e a' w'
theorem Yn {c:Code} {Q:Exit→Act→World→Prop} (h:LoopIn P c Q a w):(Code.loop c).wp P Q a w:=fun b k cs =>
 let ⟨e,a',w',hq,harr⟩:=h b k cs
 ⟨e,a',w',hq,.of_steps (.one step_loop) harr⟩
theorem Nq {c:Code} {Q:Exit→Act→World→Prop} (h:c.wp P (Exit.then (LoopIn P c Q) Q) a w):LoopIn P c Q a w:=by
 intro b k cs
 obtain ⟨e,a₁,w₁,hq,harr⟩:=h b (.inLoop c::k) cs
 cases e with
 | normal =>
  obtain ⟨e₂,a₂,w₂,hq₂,harr₂⟩:=hq b k cs
  exact ⟨e₂,a₂,w₂,hq₂,.of_steps (Steps.trans harr (.one step_inLoop)) harr₂⟩
 | exit id=>exact ⟨_,a₁,w₁,hq,.pass (x:=.inLoop c) rfl (fun _ _=>.inl (by simp)) harr⟩
 | goto l=>exact ⟨_,a₁,w₁,hq,.pass (x:=.inLoop c) rfl (fun _ _=>.inl (by simp)) harr⟩
 | ret=>exact ⟨_,a₁,w₁,hq,.pass (x:=.inLoop c) rfl (fun _ _=>.inl (by simp)) harr⟩
 | panic ch=>exact ⟨_,a₁,w₁,hq,.pass (x:=.inLoop c) rfl (fun _ _=>.inl (by simp)) harr⟩
 | outgrown=>exact ⟨_,a₁,w₁,hq,.pass (x:=.inLoop c) rfl (fun _ _=>.inl (by simp)) harr⟩
def XOk (P:Program) (E:Env) (n:Nat):Prop :=
 ∀ (K:Nat) (c:Code) (ac:AC) (tm:Tr V) (σ:St) (e:AX) (tm' : Tr V) (σ' : St),dX P K ac c=true→exec E n ac tm σ=some (e,tm',σ')→∀ (N:Nat) (w0:World) (φ:Ph) (a:Act) (w:World),Rel N w0 φ σ w→RT φ tm a→K≤a.tmps.size →
  ∀ Q:Exit→Act→World→Prop,(∀ a' w',After N w0 φ σ σ' tm' a K a' w'→Q (cX e) a' w')→c.wp P Q a w
def LOk (P:Program) (E:Env) (n:Nat):Prop :=
 ∀ (K:Nat) (c:Code) (ac:AC) (tm:Tr V) (σ:St) (e:AX) (tm' : Tr V) (σ' : St),dX P K ac c=true→exec E n (.loop ac) tm σ=some (e,tm',σ')→∀ (N:Nat) (w0:World) (φ:Ph) (a:Act) (w:World),Rel N w0 φ σ w→RT φ tm a→K≤a.tmps.size →
  ∀ Q:Exit→Act→World→Prop,(∀ a' w',After N w0 φ σ σ' tm' a K a' w'→Q (cX e) a' w')→LoopIn P c Q a w
theorem Yo {E:Env} {n:Nat} (hX:XOk P E n) (hL:LOk P E n):LOk P E (n+1):=by
 intro K c ac tm σ e tm' σ' hi h N w0 φ a w hR ht hK Q hQ
 simp only [exec,aeI] at h
 refine Nq ?_
 cases hx:exec E n ac tm σ with
 | none=>rw [hx] at h;cases h
 | some r =>
  obtain ⟨e1,Dc,σ1⟩:=r
  rw [hx] at h
  cases e1 with
  | normal =>
   simp only at h
   refine hX K c ac tm σ .normal Dc σ1 hi hx N w0 φ a w hR ht hK _ fun a1 w1 hA=>?_
   obtain ⟨q1,q2,φ1,q3,q4,q5,q6⟩:=hA
   exact hL K c ac Dc σ1 e tm' σ' hi h N w0 φ1 a1 w1 q4 q5 q2 Q fun a2 w2 hA2=>hQ a2 w2 (hA2.trans q1 q3 q6)
  | exit i =>
   simp only [Option.some.injEq,Prod.mk.injEq] at h
   obtain ⟨rfl,rfl,rfl⟩:=h
   exact hX K c ac tm σ _ _ _ hi hx N w0 φ a w hR ht hK _ fun a1 w1 hA=>hQ a1 w1 hA
  | ret =>
   simp only [Option.some.injEq,Prod.mk.injEq] at h
   obtain ⟨rfl,rfl,rfl⟩:=h
   exact hX K c ac tm σ _ _ _ hi hx N w0 φ a w hR ht hK _ fun a1 w1 hA=>hQ a1 w1 hA
theorem Yp [TQ:kZ P] {E:Env} (hm:P.follows .mixedOrders=true) {n:Nat} (hX:XOk P E n) (hL:LOk P E (n+1)) (hC:Nj P (fQ E n)):XOk P E (n+1):=by
 intro K c ac tm σ e tm' σ' hi h N w0 φ a w hR ht hK Q hQ
 cases ac with
 | skip =>
  simp only [exec,Option.some.injEq,Prod.mk.injEq] at h
  obtain ⟨rfl,rfl,rfl⟩:=h
  have hA:After N w0 φ σ σ tm a K a w:=⟨rfl,hK,φ,Ext.refl _ _,hR,ht,Nat.le_refl _⟩
  cases c <;> simp only [dX,Bool.false_eq_true,reduceCtorEq] at hi
  case skip=>exact wp_skip (hQ a w hA)
  case label=>exact wp_label (hQ a w hA)
 | ops l =>
  simp only [exec,Pv] at h
  cases c <;> (try (simp only [dX,Bool.false_eq_true] at hi;done))
  case region id ops dr =>
   cases dr with
   | true=>simp only [dX,Bool.false_eq_true] at hi
   | false =>
    simp only [dX] at hi
    split at h
    ·next Dc σ1 hr =>
     simp only [Option.some.injEq,Prod.mk.injEq] at h
     obtain ⟨rfl,rfl,rfl⟩:=h
     exact PK hC hi hR ht hK hr hQ
    ·cases h
 | drawn d pt ds =>
  simp only [exec,xDr,Pv] at h
  cases c <;> (try (simp only [dX,Bool.false_eq_true] at hi;done))
  case region id ops dr =>
   cases dr with
   | false=>simp only [dX,Bool.false_eq_true] at hi
   | true =>
    simp only [dX] at hi
    split at h
    ·next aX he =>
     split at h
     ·next Dc σ1 hr =>
      simp only [Option.some.injEq,Prod.mk.injEq] at h
      obtain ⟨rfl,rfl,rfl⟩:=h
      exact Ua hC hm hi hR ht hK he hr hQ
     ·cases h
    ·cases h
 | seq x y =>
  simp only [exec,aeI] at h
  cases c <;> (try (simp only [dX,Bool.false_eq_true] at hi;done))
  case seq ca cb =>
   simp only [dX,Bool.and_eq_true] at hi
   refine wp_seq ?_
   cases hx:exec E n x tm σ with
   | none=>rw [hx] at h;cases h
   | some r =>
    obtain ⟨e1,Dc,σ1⟩:=r
    rw [hx] at h
    cases e1 with
    | normal =>
     simp only at h
     refine hX K ca x tm σ .normal Dc σ1 hi.1 hx N w0 φ a w hR ht hK _ fun a1 w1 hA=>?_
     obtain ⟨q1,q2,φ1,q3,q4,q5,q6⟩:=hA
     exact hX K cb y Dc σ1 e tm' σ' hi.2 h N w0 φ1 a1 w1 q4 q5 q2 Q fun a2 w2 hA2=>hQ a2 w2 (hA2.trans q1 q3 q6)
    | exit i =>
     simp only [Option.some.injEq,Prod.mk.injEq] at h
     obtain ⟨rfl,rfl,rfl⟩:=h
     exact hX K ca x tm σ _ _ _ hi.1 hx N w0 φ a w hR ht hK _ fun a1 w1 hA=>hQ a1 w1 hA
    | ret =>
     simp only [Option.some.injEq,Prod.mk.injEq] at h
     obtain ⟨rfl,rfl,rfl⟩:=h
     exact hX K ca x tm σ _ _ _ hi.1 hx N w0 φ a w hR ht hK _ fun a1 w1 hA=>hQ a1 w1 hA
 | cond x y z =>
  simp only [exec,Wp] at h
  cases c <;> (try (simp only [dX,Bool.false_eq_true] at hi;done))
  case cond cc ca cb =>
   simp only [dX,Bool.and_eq_true] at hi
   have hx:=bM hi.1 ht
   split at h
   ·next t hev =>
    rw [hev] at hx
    have hx:a.eval cc = .bool t:=hx
    refine wp_cond hx ?_
    cases t with
    | true=>exact hX K ca y tm σ e tm' σ' hi.2.1 h N w0 φ a w hR ht hK Q hQ
    | false=>exact hX K cb z tm σ e tm' σ' hi.2.2 h N w0 φ a w hR ht hK Q hQ
   ·cases h
 | block j x =>
  simp only [exec,aaW] at h
  cases c <;> (try (simp only [dX,Bool.false_eq_true] at hi;done))
  case block i ca =>
   simp only [dX,Bool.and_eq_true] at hi
   have hij:=Nat.eq_of_beq_eq_true hi.1
   subst hij
   refine wp_block ?_
   cases hx:exec E n x tm σ with
   | none=>rw [hx] at h;cases h
   | some r =>
    obtain ⟨e1,Dc,σ1⟩:=r
    rw [hx] at h
    cases e1 with
    | normal =>
     simp only [Option.some.injEq,Prod.mk.injEq] at h
     obtain ⟨rfl,rfl,rfl⟩:=h
     exact hX K ca x tm σ _ _ _ hi.2 hx N w0 φ a w hR ht hK _ fun a1 w1 hA=>hQ a1 w1 hA
    | exit k =>
     simp only [Option.some.injEq,Prod.mk.injEq] at h
     obtain ⟨he,rfl,rfl⟩:=h
     refine hX K ca x tm σ _ _ _ hi.2 hx N w0 φ a w hR ht hK _ fun a1 w1 hA=>?_
     have:=hQ a1 w1 hA
     rw [← he] at this
     show if k=i then Q .normal a1 w1 else Q (.exit k) a1 w1
     rw [jy] at this
     by_cases hk:k=i
     ·rw [if_pos hk] at this ⊢;exact this
     ·rw [if_neg hk] at this ⊢;exact this
    | ret =>
     simp only [Option.some.injEq,Prod.mk.injEq] at h
     obtain ⟨rfl,rfl,rfl⟩:=h
     exact hX K ca x tm σ _ _ _ hi.2 hx N w0 φ a w hR ht hK _ fun a1 w1 hA=>hQ a1 w1 hA
 | loop x =>
  cases c <;> (try (simp only [dX,Bool.false_eq_true] at hi;done))
  case loop ca =>
   simp only [dX] at hi
   exact Yn (hL K ca x tm σ e tm' σ' hi h N w0 φ a w hR ht hK Q hQ)
 | exit j =>
  simp only [exec,Option.some.injEq,Prod.mk.injEq] at h
  obtain ⟨rfl,rfl,rfl⟩:=h
  cases c <;> (try (simp only [dX,Bool.false_eq_true] at hi;done))
  case exit i =>
   simp only [dX] at hi
   have hij:=Nat.eq_of_beq_eq_true hi
   subst hij
   exact wp_exit (hQ a w ⟨rfl,hK,φ,Ext.refl _ _,hR,ht,Nat.le_refl _⟩)
 | ret =>
  simp only [exec,Option.some.injEq,Prod.mk.injEq] at h
  obtain ⟨rfl,rfl,rfl⟩:=h
  cases c <;> (try (simp only [dX,Bool.false_eq_true] at hi;done))
  case ret=>exact wp_ret (hQ a w ⟨rfl,hK,φ,Ext.refl _ _,hR,ht,Nat.le_refl _⟩)
 | bad=>simp only [exec,reduceCtorEq] at h
theorem Yq {E:Env} (hE:KF P E) {n:Nat} (hX:XOk P E n):Nj P (fQ E (n+1)):=by
 intro f args σ v σ' h N w0 φ w aF hR ha
 simp only [fQ,AP,Ye] at h
 split at h
 ·next u hu =>
  obtain ⟨h1,h2⟩:=hE.orc f args σ v σ' (by rw [hu,← h])
  exact ⟨h1,h2 N w0 φ w aF hR ha⟩
 ·split at h
  ·next F hF =>
   have hi:=hE.fns f F hF
   unfold PN at hi
   split at hi
   ·next fn hfn =>
    split at hi
    ·next c hc =>
     simp only [Bool.and_eq_true,Bool.not_eq_true'] at hi
     obtain ⟨i1,i2,i3⟩:=hi
     refine ⟨⟨fn,hfn,by rw [hc];rfl,i1⟩,?_⟩
     split at h
     ·next tm Nk =>
      have hget:=Ie args 0 .leaf tm Nk
      have hK:fn.ntmps≤({ tmps:=aF ++ Array.replicate (fn.ntmps - aF.size) undef,defers:=[] } : Act).tmps.size:=by simp;omega
      have ht:RT φ tm { tmps:=aF ++ Array.replicate (fn.ntmps - aF.size) undef,defers:=[] }:=fun j u hu=>by
       rw [hget j] at hu
       split at hu
       ·obtain ⟨cu,h1,h2⟩:=ha.get _ _ hu
        simp only [Nat.sub_zero,Array.getElem?_toList] at h1
        have hj:j<aF.size:=by
         rcases Nat.lt_or_ge j aF.size with h|h
         ·exact h
         ·rw [Array.getElem?_eq_none h] at h1;cases h1
        have h3:(aF ++ Array.replicate (fn.ntmps - aF.size) undef)[j]?=some cu:=by rw [Array.getElem?_append_left hj];exact h1
        simp only [Array.getD_eq_getD_getElem?,h3]
        exact h2
       ·rw [Tr.Aw] at hu;cases hu
      have fin : ∀ (e:AX) (Dc:Tr V) (σ1:St),exec E n F.body tm σ=some (e,Dc,σ1)→e = .normal∨e = .ret→(match result Dc σ1 F.res with|some v=>some (v,σ1)|none=>none)=some (v,σ') →
        Calls P f aF w fun e w'=>∃ cv,e = .returned cv∧∃ φ',Ext σ.ah φ φ'∧Rel N w0 φ' σ' w'∧RV φ' v cv∧σ.ah≤σ'.ah:=by
       intro e Dc σ1 hx he hr
       split at hr
       ·next u hu =>
        simp only [Option.some.injEq,Prod.mk.injEq] at hr
        obtain ⟨rfl,rfl⟩:=hr
        refine calls_of_wp hfn hc (hX fn.ntmps c F.body tm σ e Dc σ1 i2 hx N w0 φ _ w hR ht hK _ fun a1 w1 hA=>?_)
        obtain ⟨q1,q2,φ1,q3,q4,q5,q6⟩:=hA
        obtain ⟨cv,r1,r2⟩:=PO (P:=P) q4 q5 i3 hu
        have hpost:a1.defers=[]∧∃ v',(results fn a1.tmps).run P w1 = .ok v' w1∧∃ cv,Ending.returned v' = .returned cv∧∃ φ',Ext σ.ah φ φ'∧Rel N w0 φ' σ1 w1∧RV φ' u cv∧σ.ah≤σ1.ah :=
         ⟨q1,cv,r1,cv,rfl,φ1,q3,q4,r2,q6⟩
        rcases he with rfl|rfl
        ·exact hpost
        ·exact hpost
       ·cases hr
      split at h
      ·next Dc σ1 hx=>exact fin _ _ _ hx (.inl rfl) h
      ·next Dc σ1 hx=>exact fin _ _ _ hx (.inr rfl) h
      ·cases h
     ·cases h
    ·cases hi
   ·cases hi
  ·cases h
theorem KH [TQ:kZ P] {E:Env} (hE:KF P E) (hm:P.follows .mixedOrders=true) : ∀ n,XOk P E n∧LOk P E n∧Nj P (fQ E n)
 | 0=>⟨fun K c ac tm σ e tm' σ' _ h=>by simp only [exec,reduceCtorEq] at h,fun K c ac tm σ e tm' σ' _ h=>by simp only [exec,reduceCtorEq] at h,fun f args σ v σ' h=>by simp only [fQ,reduceCtorEq] at h⟩
 | n+1=>by
  obtain ⟨h1,h2,h3⟩:=KH hE hm n
  have hL:=Yo h1 h2
  exact ⟨Yp hm h1 hL h3,hL,Yq hE h1⟩
theorem Dh [TQ:kZ P] {E:Env} (hE:KF P E) (hm:P.follows .mixedOrders=true) {n f:Nat} {args:List V} {σ σ' : St} {v:V} (h:fQ E n f args σ=some (v,σ')) {N:Nat} {w0 w:World} {φ:Ph} {aF:Array Value} (hR:Rel N w0 φ σ w) (ha:sV φ args aF.toList) :
  Calls P f aF w fun e w'=>∃ cv,e = .returned cv∧∃ φ',Ext σ.ah φ φ'∧Rel N w0 φ' σ' w'∧RV φ' v cv∧σ.ah≤σ'.ah :=
 ((KH hE hm n).2.2 f args σ v σ' h N w0 φ w aF hR ha).2
end
/-! ### More steps do no harm -/
def Yr (cl cl' : Nat→List V→St→Option (V×St)):Prop:=∀ f args σ r,cl f args σ=some r→cl' f args σ=some r
section
variable {cl cl' : Nat→List V→St→Option (V×St)}
theorem PS (h:Yr cl cl') {op:oI} {tm:Tr V} {σ:St} {r:V×St} (hs:kK cl op tm σ=some r):kK cl' op tm σ=some r:=by
 unfold kK at hs ⊢
 split at hs
 ·exact hs
 ·exact hs
 ·exact hs
 ·next e =>
  split at hs
  ·next f args e2=>exact h _ _ _ _ hs
  ·cases hs
theorem A8 (h:Yr cl cl') {o:AO} {tm:Tr V} {σ:St} {r:V×St} (hs:stepG cl o tm σ=some r):stepG cl' o tm σ=some r:=by
 unfold stepG at hs ⊢
 split at hs
 ·exact PS h hs
 ·exact hs
 ·cases hs
theorem Di (h:Yr cl cl') : ∀ {l:List AO} {tm:Tr V} {σ:St} {r:Tr V×St},ng cl l tm σ=some r→ng cl' l tm σ=some r
 | [],_,_,_,hs=>hs
 | o::l,tm,σ,r,hs=>by
  unfold ng at hs ⊢
  split at hs
  ·next v σ' e =>
   rw [A8 h e]
   dsimp only
   split at hs
   ·next tm' e2=>exact Di h hs
   ·cases hs
  ·cases hs
theorem Nr (h:Yr cl cl') {pt:List (List Nat)} {bV aX:Tr V} : ∀ {d:Dr} {σ:St} {res:List Rs} {pd:List fZ} {r:Tr V×St},wX cl pt bV aX d σ res pd=some r→wX cl' pt bV aX d σ res pd=some r
 | .fin qs,σ,res,pd,r,hs=>by unfold wX at hs ⊢;exact hs
 | .act qs x d,σ,res,pd,r,hs=>by
  unfold wX at hs ⊢
  split at hs
  ·next σ1 res1 pd1 e =>
   cases hb:pd1.all (again σ1) with
   | false=>rw [hb] at hs;cases hs
   | true =>
    rw [hb] at hs
    simp only [cond_true] at hs ⊢
    split at hs
    ·next tm e2 =>
     split at hs
     ·next v σ2 e3 =>
      rw [A8 h e3]
      exact Nr h hs
     ·cases hs
    ·cases hs
  ·cases hs
end
theorem Ns (E:Env) : ∀ n,(∀ c tm σ r,exec E n c tm σ=some r→exec E (n+1) c tm σ=some r)∧Yr (fQ E n) (fQ E (n+1))
 | 0=>⟨fun c tm σ r h=>by simp only [exec,reduceCtorEq] at h,fun f args σ r h=>by simp only [fQ,reduceCtorEq] at h⟩
 | n+1=>by
  obtain ⟨h1,h2⟩:=Ns E n
  refine ⟨fun c tm σ r h=>?_,fun f args σ r h=>?_⟩
  ·cases c with
   | skip=>simp only [exec] at h ⊢;exact h
   | ops l =>
    simp only [exec,Pv] at h ⊢
    split at h
    ·next tm' σ' e=>rw [Di h2 e];exact h
    ·cases h
   | drawn d pt ds =>
    simp only [exec,xDr,Pv] at h ⊢
    split at h
    ·next aX e =>
     split at h
     ·next tm' σ' e2=>rw [Nr h2 e2];exact h
     ·cases h
    ·cases h
   | seq a b =>
    rw [exec] at h ⊢
    cases hx:exec E n a tm σ with
    | none=>rw [hx] at h;cases h
    | some q =>
     rw [hx] at h
     rw [h1 _ _ _ _ hx]
     obtain ⟨e,tm',σ'⟩:=q
     cases e with
     | normal=>exact h1 _ _ _ _ h
     | exit i=>exact h
     | ret=>exact h
   | cond x a b =>
    simp only [exec,Wp] at h ⊢
    split at h
    ·exact h1 _ _ _ _ h
    ·cases h
   | block i a =>
    rw [exec] at h ⊢
    cases hx:exec E n a tm σ with
    | none=>rw [hx] at h;cases h
    | some q=>rw [hx] at h;rw [h1 _ _ _ _ hx];exact h
   | loop a =>
    rw [exec] at h ⊢
    cases hx:exec E n a tm σ with
    | none=>rw [hx] at h;cases h
    | some q =>
     rw [hx] at h
     rw [h1 _ _ _ _ hx]
     obtain ⟨e,tm',σ'⟩:=q
     cases e with
     | normal=>exact h1 _ _ _ _ h
     | exit i=>exact h
     | ret=>exact h
   | exit i=>simp only [exec] at h ⊢;exact h
   | ret=>simp only [exec] at h ⊢;exact h
   | bad=>simp only [exec,reduceCtorEq] at h
  ·rw [fQ] at h ⊢
   unfold AP at h ⊢
   split at h
   ·exact h
   ·split at h
    ·split at h
     ·next tm e =>
      unfold Ye at h ⊢
      split at h
      ·next tm' σ' e2=>rw [h1 _ _ _ _ e2];exact h
      ·next tm' σ' e2=>rw [h1 _ _ _ _ e2];exact h
      ·cases h
     ·cases h
    ·cases h
theorem yE {E:Env} {n m:Nat} (h:n≤m) {c:AC} {tm:Tr V} {σ:St} {r:AX×Tr V×St} (hx:exec E n c tm σ=some r):exec E m c tm σ=some r:=by
 induction h with
 | refl=>exact hx
 | step _ ih=>exact (Ns E _).1 _ _ _ _ ih
theorem jT {E:Env} {n m:Nat} (h:n≤m):Yr (fQ E n) (fQ E m):=by
 induction h with
 | refl=>exact fun _ _ _ _ h=>h
 | step _ ih=>exact fun f args σ r hx=>(Ns E _).2 _ _ _ _ (ih f args σ r hx)
/-! ### What comes of a run -/
def aT (E:Env) (f:Nat) (args:List V) (σ:St) (Q:V→St→Prop):Prop:=∃ n v σ',fQ E n f args σ=some (v,σ')∧Q v σ'
def bY (E:Env) (c:AC) (tm:Tr V) (σ:St) (Q:AX→Tr V→St→Prop):Prop:=∃ n e tm' σ',exec E n c tm σ=some (e,tm',σ')∧Q e tm' σ'
section
variable {E:Env} {tm:Tr V} {σ:St} {Q Q' : AX→Tr V→St→Prop}
theorem aT.mono {f:Nat} {args:List V} {K K' : V→St→Prop} (h:aT E f args σ K) (hk : ∀ v σ',K v σ'→K' v σ'):aT E f args σ K':=by
 obtain ⟨n,v,σ',h1,h2⟩:=h
 exact ⟨n,v,σ',h1,hk _ _ h2⟩
theorem bY.mono {c:AC} (h:bY E c tm σ Q) (hk : ∀ e tm' σ',Q e tm' σ'→Q' e tm' σ'):bY E c tm σ Q':=by
 obtain ⟨n,e,tm',σ',h1,h2⟩:=h
 exact ⟨n,e,tm',σ',h1,hk _ _ _ h2⟩
def Ub (E:Env) (b:AC) (Q:AX→Tr V→St→Prop):AX→Tr V→St→Prop
 | .normal,tm,σ=>bY E b tm σ Q
 | e,tm,σ=>Q e tm σ
theorem run_seq {a b:AC} (h:bY E a tm σ (Ub E b Q)):bY E (.seq a b) tm σ Q:=by
 obtain ⟨n,e,tm',σ',h1,h2⟩:=h
 cases e with
 | normal =>
  obtain ⟨m,e2,tm2,σ2,h3,h4⟩:=h2
  refine ⟨n+m+1,e2,tm2,σ2,?_,h4⟩
  rw [exec,yE (by omega) h1]
  exact yE (by omega) h3
 | exit i=>exact ⟨n+1,_,tm',σ',by rw [exec,h1];rfl,h2⟩
 | ret=>exact ⟨n+1,_,tm',σ',by rw [exec,h1];rfl,h2⟩
theorem PU (h:Q .normal tm σ):bY E .skip tm σ Q:=⟨1,_,_,_,by rw [exec],h⟩
theorem abd {i:Nat} (h:Q (.exit i) tm σ):bY E (.exit i) tm σ Q:=⟨1,_,_,_,by rw [exec],h⟩
theorem ae1 (h:Q .ret tm σ):bY E .ret tm σ Q:=⟨1,_,_,_,by rw [exec],h⟩
theorem abe {x:O} {a b:AC} {t:Bool} (hx:x.ev tm = .c (.bool t)) (h:bY E (bif t then a else b) tm σ Q):bY E (.cond x a b) tm σ Q:=by
 obtain ⟨n,e,tm',σ',h1,h2⟩:=h
 exact ⟨n+1,e,tm',σ',by rw [exec,hx];exact h1,h2⟩
def abf (i:Nat) (Q:AX→Tr V→St→Prop):AX→Tr V→St→Prop
 | .exit j,tm,σ=>Q (bif Nat.beq j i then .normal else .exit j) tm σ
 | e,tm,σ=>Q e tm σ
theorem Dj {i:Nat} {a:AC} (h:bY E a tm σ (abf i Q)):bY E (.block i a) tm σ Q:=by
 obtain ⟨n,e,tm',σ',h1,h2⟩:=h
 cases e with
 | normal=>exact ⟨n+1,_,tm',σ',by rw [exec,h1];rfl,h2⟩
 | exit j=>exact ⟨n+1,_,tm',σ',by rw [exec,h1];rfl,h2⟩
 | ret=>exact ⟨n+1,_,tm',σ',by rw [exec,h1];rfl,h2⟩
def ae2 (I:Nat→Tr V→St→Prop) (m:Nat) (Q:AX→Tr V→St→Prop):AX→Tr V→St→Prop
 | .normal,tm,σ=>∃ m',m' < m∧I m' tm σ
 | e,tm,σ=>Q e tm σ
theorem aP {a:AC} (I:Nat→Tr V→St→Prop) (m:Nat) (h0:I m tm σ) (h : ∀ m tm σ,I m tm σ→bY E a tm σ (ae2 I m Q)):bY E (.loop a) tm σ Q:=by
 induction m using Nat.strongRecOn generalizing tm σ with
 | ind m ih =>
  obtain ⟨n,e,tm',σ',h1,h2⟩:=h m tm σ h0
  cases e with
  | normal =>
   obtain ⟨m',hlt,hI⟩:=h2
   obtain ⟨k,e2,tm2,σ2,h3,h4⟩:=ih m' hlt hI
   refine ⟨n+k+1,e2,tm2,σ2,?_,h4⟩
   rw [exec,yE (by omega) h1]
   exact yE (by omega) h3
  | exit i=>exact ⟨n+1,_,tm',σ',by rw [exec,h1];rfl,h2⟩
  | ret=>exact ⟨n+1,_,tm',σ',by rw [exec,h1];rfl,h2⟩
/-! ### Operations -/
noncomputable def yM (tm:Tr V) (d:Option Nat) (v:V):Tr V:=match d with|none=>tm|some d=>tm.set d (some v)
theorem Ba (tm:Tr V) (d:Option Nat) (v:V):zo tm d v=some (yM tm d v):=by cases d <;> rfl
def wpOp (E:Env) (op:oI) (tm:Tr V) (σ:St) (K:V→St→Prop):Prop :=
 match op with
 | .call g args=>match g.ev tm with
  | .fn f caps=>aT E f (args.map (·.ev tm) ++ caps.map .c) σ K
  | _=>False
 | op=>match kK (fun _ _ _=>none) op tm σ with|some (v,σ')=>K v σ'|none=>False
def wpG (E:Env) (o:AO) (tm:Tr V) (σ:St) (K:V→St→Prop):Prop :=
 match gate o.g tm with
 | some true=>wpOp E o.op tm σ K
 | some false=>K .tnil σ
 | none=>False
def wpOps (E:Env):List AO→Tr V→St→(Tr V→St→Prop)→Prop
 | [],tm,σ,Q=>Q tm σ
 | o::r,tm,σ,Q=>wpG E o tm σ fun v σ'=>wpOps E r (yM tm o.dst v) σ' Q
theorem Yt {op:oI} {K:V→St→Prop} (h:wpOp E op tm σ K) : ∃ n v σ',kK (fQ E n) op tm σ=some (v,σ')∧K v σ':=by
 unfold wpOp at h
 split at h
 ·next g args =>
  split at h
  ·next f caps e =>
   obtain ⟨n,v,σ',h1,h2⟩:=h
   refine ⟨n,v,σ',?_,h2⟩
   unfold kK
   simp only [oI.kind,Wj,e,h1]
  ·exact h.elim
 ·split at h
  ·next v σ' e=>exact ⟨0,v,σ',PS (cl:=fun _ _ _=>none) (fun _ _ _ _ h=>by cases h) e,h⟩
  ·exact h.elim
theorem PV {o:AO} {K:V→St→Prop} (h:wpG E o tm σ K) : ∃ n v σ',stepG (fQ E n) o tm σ=some (v,σ')∧K v σ':=by
 unfold wpG at h
 split at h
 ·next e =>
  obtain ⟨n,v,σ',h1,h2⟩:=Yt h
  exact ⟨n,v,σ',by unfold stepG;rw [e];exact h1,h2⟩
 ·next e=>exact ⟨0,_,_,by unfold stepG;rw [e],h⟩
 ·exact h.elim
theorem Ig : ∀ {l:List AO} {tm:Tr V} {σ:St} {Q:Tr V→St→Prop},wpOps E l tm σ Q→∃ n tm' σ',ng (fQ E n) l tm σ=some (tm',σ')∧Q tm' σ'
 | [],tm,σ,Q,h=>⟨0,tm,σ,rfl,h⟩
 | o::l,tm,σ,Q,h=>by
  obtain ⟨n,v,σ1,h1,h2⟩:=PV (show wpG E o tm σ _ from h)
  obtain ⟨m,tm',σ',h3,h4⟩:=Ig h2
  refine ⟨n+m,tm',σ',?_,h4⟩
  unfold ng
  rw [A8 (jT (by omega)) h1]
  dsimp only
  rw [Ba]
  exact Di (jT (by omega)) h3
theorem ae3 {l:List AO} (h:wpOps E l tm σ fun tm' σ'=>Q .normal tm' σ'):bY E (.ops l) tm σ Q:=by
 obtain ⟨n,tm',σ',h1,h2⟩:=Ig h
 exact ⟨n+1,.normal,tm',σ',by rw [exec,h1];rfl,h2⟩
/-! ### A region that draws its order -/
def PW (E:Env) (pt:List (List Nat)) (bV aX:Tr V):Dr→St→List Rs→List fZ→(Tr V→St→Prop)→Prop
 | .fin qs,σ,res,pd,Q=>(match pU bV aX qs σ res pd with
  | some (σ,res,pd)=>pd.all (again σ)=true∧(match CW aX res with|some tm=>Q tm σ|none=>False)
  | none=>False)
 | .act qs x r,σ,res,pd,Q=>(match pU bV aX qs σ res pd with
  | some (σ,res,pd)=>pd.all (again σ)=true∧(match G8 bV aX res x.us x.os with
   | some tm=>wpG E x.o tm σ fun v σ'=>PW E pt bV aX r σ' (⟨x.i,x.o.dst,v⟩::res) (pd.filter fun p=>!((pt.getD x.i []).contains p.i)) Q
   | none=>False)
  | none=>False)
theorem PX {pt:List (List Nat)} {bV aX:Tr V} : ∀ {d:Dr} {σ:St} {res:List Rs} {pd:List fZ} {Q:Tr V→St→Prop},PW E pt bV aX d σ res pd Q→∃ n tm' σ',wX (fQ E n) pt bV aX d σ res pd=some (tm',σ')∧Q tm' σ'
 | .fin qs,σ,res,pd,Q,h=>by
  unfold PW at h
  split at h
  ·next σ1 res1 pd1 e =>
   obtain ⟨h1,h2⟩:=h
   split at h2
   ·next tm e2=>exact ⟨0,tm,σ1,by unfold wX;rw [e];dsimp only;rw [h1,e2];rfl,h2⟩
   ·exact h2.elim
  ·exact h.elim
 | .act qs x r,σ,res,pd,Q,h=>by
  unfold PW at h
  split at h
  ·next σ1 res1 pd1 e =>
   obtain ⟨h1,h2⟩:=h
   split at h2
   ·next tm e2 =>
    obtain ⟨n,v,σ2,h3,h4⟩:=PV h2
    obtain ⟨m,tm',σ',h5,h6⟩:=PX h4
    refine ⟨n+m,tm',σ',?_,h6⟩
    unfold wX
    rw [e]
    dsimp only
    rw [h1,e2]
    simp only [cond_true]
    rw [A8 (jT (by omega)) h3]
    exact Nr (jT (by omega)) h5
   ·exact h2.elim
  ·exact h.elim
theorem Yu {d:Dr} {pt:List (List Nat)} {ds:List Nat} (aX:Tr V) (he:vG tm ds=some aX) (h:PW E pt tm aX d σ [] [] fun tm' σ'=>Q .normal tm' σ'):bY E (.drawn d pt ds) tm σ Q:=by
 obtain ⟨n,tm',σ',h1,h2⟩:=PX h
 exact ⟨n+1,.normal,tm',σ',by rw [exec];unfold xDr;rw [he];dsimp only;rw [h1];rfl,h2⟩
/-! ### Calls -/
noncomputable def abg:List V→Nat→Tr V→Tr V
 | [],_,t=>t
 | v::r,i,t=>abg r (i+1) (t.set i (some v))
noncomputable def ini (args:List V):Tr V:=abg args 0 .leaf
theorem Ih : ∀ (args:List V) (i:Nat) (t:Tr V),AL args i t=some (abg args i t)
 | [],_,_=>rfl
 | v::r,i,t=>by
  unfold AL
  show AL r (i+1) (t.set i (some v))=_
  rw [Ih r (i+1)];rfl
theorem PY : ∀ (args:List V) (i:Nat) (t:Tr V) (j:Nat),(abg args i t).get j=if i≤j∧j<i+args.length then args[j - i]? else t.get j
 | [],i,t,j=>by
  rw [if_neg (by simp only [List.length_nil];omega)];rfl
 | v::r,i,t,j=>by
  show (abg r (i+1) (t.set i (some v))).get j=_
  rw [PY r (i+1)]
  simp only [List.length_cons]
  by_cases h:i+1≤j∧j<i+1+r.length
  ·rw [if_pos h,if_pos (by omega),show j - i=(j - (i+1))+1 by omega,List.getElem?_cons_succ]
  ·rw [if_neg h,Tr.jZ]
   by_cases h2:j=i
   ·subst h2
    rw [if_pos rfl,if_pos (by omega),Nat.sub_self];rfl
   ·rw [if_neg h2,if_neg (by omega)]
theorem rX (args:List V) (j:Nat):(ini args).get j=args[j]?:=by
 unfold ini
 rw [PY]
 by_cases h:j<args.length
 ·rw [if_pos (by omega)];rfl
 ·rw [if_neg (by omega),List.getElem?_eq_none (by omega),Tr.Aw]
theorem Uc (args:List V):AL args 0 .leaf=some (ini args):=Ih args 0 .leaf
def Yv (res:List (Nat×Option (Nat×Bool))) (K:V→St→Prop):AX→Tr V→St→Prop
 | .exit _,_,_=>False
 | _,tm,σ=>∃ v,result tm σ res=some v∧K v σ
theorem dh {f:Nat} {args:List V} {F:AF} {K:V→St→Prop} (ho:E.orc f args σ=none) (hF:E.fns f=some F) (h:bY E F.body (ini args) σ (Yv F.res K)):aT E f args σ K:=by
 obtain ⟨n,e,tm',σ',h1,h2⟩:=h
 cases e with
 | exit i=>exact h2.elim
 | normal =>
  obtain ⟨v,h3,h4⟩:=h2
  exact ⟨n+1,v,σ',by rw [fQ];unfold AP;rw [ho,hF];dsimp only;rw [Uc];dsimp only;rw [h1];unfold Ye;dsimp only;rw [h3],h4⟩
 | ret =>
  obtain ⟨v,h3,h4⟩:=h2
  exact ⟨n+1,v,σ',by rw [fQ];unfold AP;rw [ho,hF];dsimp only;rw [Uc];dsimp only;rw [h1];unfold Ye;dsimp only;rw [h3],h4⟩
theorem PZ {f:Nat} {args:List V} {v:V} {σ' : St} {K:V→St→Prop} (ho:E.orc f args σ=some (v,σ')) (h:K v σ'):aT E f args σ K :=
 ⟨1,v,σ',by rw [fQ];unfold AP;rw [ho],h⟩
end
end Go.Proofs.Xe
