/- The bJ: rules for runs on values that are not known. -/
import Derived.Test.YtjonjhcaniinaaaGreatDoorZ14
set_option linter.all false
namespace Go.Proofs.Xe
open Go.RowKit Go.Proofs.Ins
def eY (P:Program) (K:Nat):AC→Code→Bool
 | .skip,.skip=>true
 | .skip,.label _=>true
 | .ops l,.region _ ops false=>JG P K ops ops.toList l
 | .drawn d pt ds,.region _ ops true=>adx P K ops d pt ds
 | .seq x y,.seq a b=>eY P K x a && eY P K y b
 | .cond x y z,.cond c a b=>uq c x && (eY P K y a && eY P K z b)
 | .block j x,.block i a=>Nat.beq i j && eY P K x a
 | .loop x,.loop a=>eY P K x a
 | .exit j,.exit i=>Nat.beq i j
 | .ret,.ret=>true
 | .bad,_=>true
 | _,_=>false
def Bj (P:Program):List ResultVar→List (Nat×Option (Nat×Bool))→Bool
 | [],[]=>true
 | .tmp t::r,(i,none)::l=>Nat.beq t i && Bj P r l
 | .cell t ty::r,(i,some (n,g))::l=>Nat.beq t i && (aaD P ty n g && Bj P r l)
 | _,_=>false
def Tv (P:Program) (f:Nat) (F:AF):Bool :=
 match P.funcs[f]? with
 | some fn=>(match fn.body with
  | some c => !(fn.name == "runtime.NumGoroutine") && (eY P fn.ntmps F.body c && Bj P fn.results.toList F.res)
  | none=>false)
 | none=>false
structure NQ (P:Program) (E:Env):Prop where
 fns : ∀ f F,E.fns f=some F→Tv P f F=true
 orc : ∀ f args σ v σ',E.orc f args σ=some (v,σ')→okF P f∧∀ (N:Nat) (w0:World) (φ:Ph) (w:World) (aG:Array Value),Rel N w0 φ σ w→wE φ args aG.toList→Calls P f aG w fun e w'=>∃ cv,e = .returned cv∧∃ φ',Ext σ.ah φ φ'∧Rel N w0 φ' σ' w'∧RV φ' v cv∧σ.ah≤σ'.ah
section
variable {P:Program} {N:Nat} {w0 w w' : World} {φ φ' : Ph} {σ σ' : St} {tm tm' : Tr V} {a:Act} {v:V}
theorem wE.get : ∀ {l:List V} {r:List Value} (j:Nat) (x:V),wE φ l r→l[j]?=some x→∃ u,r[j]?=some u∧RV φ x u
 | _::_,u::_,0,_,hv,h=>by cases h;exact ⟨u,rfl,hv.1⟩
 | _::l,_::r,j+1,x,hv,h=>wE.get (l:=l) (r:=r) j x hv.2 (by simpa using h)
 | [],_,_,_,_,h=>by simp at h
 | _::_,[],_,_,hv,_=>hv.elim
theorem JK : ∀ (args:List V) (i:Nat) (t t' : Tr V),Dh args i t=some t'→∀ j,t'.get j=if i≤j∧j<i+args.length then args[j - i]? else t.get j
 | [],i,t,t',h,j=>by
  simp only [Dh,Option.some.injEq] at h
  subst h
  rw [if_neg (by simp only [List.length_nil];omega)]
 | u::r,i,t,t',h,j=>by
  unfold Dh at h
  split at h
  ·next t1 h1 =>
   rw [JK r (i+1) t1 t' h j,Tr.get_put _ 40 _ _ _ j h1]
   simp only [List.length_cons]
   by_cases e:j=i
   ·subst e
    rw [if_neg (by omega),if_pos rfl,if_pos (by omega)]
    simp
   ·rw [if_neg e]
    by_cases hc:i+1≤j∧j<i+1+r.length
    ·rw [if_pos hc,if_pos (by omega),show j - i=(j - (i+1))+1 by omega]
     simp
    ·rw [if_neg hc,if_neg (by omega)]
  ·cases h
theorem yT (hR:Rel N w0 φ σ w) (ht:RT φ tm a) : ∀ (rs:List ResultVar) (l:List (Nat×Option (Nat×Bool))) (v:V),Bj P rs l=true→mV tm σ l=some v →
  ∃ vs,(rs.mapM (fun (x:ResultVar)=>match x with|.tmp t=>(pure (a.tmps.getD t undef):Sem Value)|.cell c t=>do loadVar t (← asAddr (a.tmps.getD c undef)))).run P w = .ok vs w∧RV φ v (.tuple vs.toArray)∧vs.length=l.length
 | [],[],v,_,h=>by
  simp only [mV,Option.some.injEq] at h
  subst h
  exact ⟨[],by simp,rfl,rfl⟩
 | .tmp t::rs,(i,none)::l,v,hi,h=>by
  unfold Bj at hi
  rw [Bool.and_eq_true] at hi
  have e:=Nat.eq_of_beq_eq_true hi.1
  subst e
  unfold mV at h
  split at h
  ·next u r hu hr =>
   cases h
   obtain ⟨vs,h1,h2,h3⟩:=yT hR ht rs l r hi.2 hr
   refine ⟨a.tmps.getD t undef::vs,?_,⟨_,vs,rfl,ht t u hu,h2⟩,by simp [h3]⟩
   rw [List.mapM_cons]
   simp only [Sem.run_bind,Sem.run_pure,Result.andThen_ok,h1]
  ·cases h
 | .cell t ty::rs,(i,some (n,g))::l,v,hi,h=>by
  unfold Bj at hi
  simp only [Bool.and_eq_true] at hi
  obtain ⟨i1,i2,i3⟩:=hi
  have e:=Nat.eq_of_beq_eq_true i1
  subst e
  unfold mV at h
  split at h
  ·next u r hu hr =>
   cases h
   obtain ⟨vs,h1,h2,h3⟩:=yT hR ht rs l r i3 hr
   simp only [dB,YD] at hu
   have hx:=RV.tm ht t
   simp only [O.ev] at hu
   split at hu
   ·next b o e =>
    rw [e] at hx
    obtain ⟨p,hp,e2⟩:=hx
    split at hu
    ·next k hk =>
     obtain ⟨hpl,hu⟩:k.rd=true∧yw k.cells o _ _=some u:=by
      cases hpl:k.rd with
      | false=>rw [hpl] at hu;cases hu
      | true=>rw [hpl] at hu;exact ⟨rfl,hu⟩
     obtain ⟨cv,h4,h5⟩:=Dk (P:=P) hR i2 hk hpl hp hu
     refine ⟨cv::vs,?_,⟨_,vs,rfl,h5,h2⟩,by simp [h3]⟩
     have hA:(asAddr (a.tmps.getD t undef)).run P w = .ok ⟨p.1,o,none⟩ w:=by rw [e2];rfl
     rw [List.mapM_cons]
     simp only [Sem.run_bind,hA,Sem.run_pure,Result.andThen_ok,h4,h1]
    ·cases hu
   ·cases hu
  ·cases h
 | [],_::_,_,h,_=>by cases h
 | .tmp _::_,[],_,h,_=>by cases h
 | .cell _ _::_,[],_,h,_=>by cases h
 | .tmp _::_,(_,some _)::_,_,h,_=>by cases h
 | .cell _ _::_,(_,none)::_,_,h,_=>by cases h
theorem Tz (hR:Rel N w0 φ σ w) (ht:RT φ tm a) {fn:Func} {l:List (Nat×Option (Nat×Bool))} (hi:Bj P fn.results.toList l=true) (h:result tm σ l=some v) :
  ∃ cv,(results fn a.tmps).run P w = .ok cv w∧RV φ v cv:=by
 unfold result at h
 cases hg:mV tm σ l with
 | none=>rw [hg] at h;cases h
 | some u =>
  rw [hg] at h
  obtain ⟨vs,h1,h2,h3⟩:=yT (P:=P) hR ht fn.results.toList l u hi hg
  have hrun:(results fn a.tmps).run P w = .ok (if h:vs.toArray.size=1 then vs.toArray[0] else .tuple vs.toArray) w:=by
   unfold results
   rw [Array.mapM_eq_mapM_toList]
   simp only [Sem.run_bind,Sem.run_map]
   erw [h1]
   rfl
  rw [hrun]
  split at h
  ·next v' e =>
   cases e
   cases h
   obtain ⟨x,xs,e1,e2,e3⟩:=h2
   have e3:xs=[]:=by
    have:Value.tuple xs.toArray = .tuple #[]:=e3
    simpa using this
   have e1:vs=[x]:=by
    rw [e3] at e1
    simpa using e1
   subst e1
   exact ⟨x,by simp,e2⟩
  ·next hne =>
   cases h
   refine ⟨.tuple vs.toArray,?_,h2⟩
   rw [dif_neg]
   intro h1'
   have hl1:l.length=1:=by rw [← h3];simpa using h1'
   obtain ⟨⟨i,q⟩,rfl⟩:=List.length_eq_one_iff.mp hl1
   cases q with
   | none =>
    simp only [mV] at hg
    split at hg
    ·next x y hx hy =>
     cases hy
     cases hg
     exact hne x rfl
    ·cases hg
   | some q =>
    obtain ⟨n,g⟩:=q
    simp only [mV] at hg
    split at hg
    ·next x y hx hy =>
     cases hy
     cases hg
     exact hne x rfl
    ·cases hg
def cX:AX→Exit
 | .normal=>.normal
 | .exit i=>.exit i
 | .ret=>.ret
def LoopIn (P:Program) (c:Code) (Q:Exit→Act→World→Prop) (a:Act) (w:World):Prop :=
 ∀ (b:Frame) (k:List Item) (cs:List Frame),∃ e a' w',Q e a' w'∧Arrives P (lone (b.at a (.code c :: .inLoop c::k)) cs w) b k cs e a' w'
theorem aaJ {c:Code} {Q:Exit→Act→World→Prop} (h:LoopIn P c Q a w):(Code.loop c).wp P Q a w:=fun b k cs =>
 let ⟨e,a',w',hq,harr⟩:=h b k cs
 ⟨e,a',w',hq,.of_steps (.one step_loop) harr⟩
theorem PS {c:Code} {Q:Exit→Act→World→Prop} (h:c.wp P (Exit.then (LoopIn P c Q) Q) a w):LoopIn P c Q a w:=by
 intro b k cs
 obtain ⟨e,a₁,w₁,hq,harr⟩:=h b (.inLoop c::k) cs
 cases e with
 | normal =>
  obtain ⟨e₂,a₂,w₂,hq₂,harr₂⟩:=hq b k cs
  exact ⟨e₂,a₂,w₂,hq₂,.of_steps (Steps.trans harr (.one step_inLoop)) harr₂⟩
 | exit id=>exact ⟨_,a₁,w₁,hq,.pass (x:=.inLoop c) rfl (fun _ _=>.inl kc) harr⟩
 | goto l=>exact ⟨_,a₁,w₁,hq,.pass (x:=.inLoop c) rfl (fun _ _=>.inl kc) harr⟩
 | ret=>exact ⟨_,a₁,w₁,hq,.pass (x:=.inLoop c) rfl (fun _ _=>.inl kc) harr⟩
 | panic ch=>exact ⟨_,a₁,w₁,hq,.pass (x:=.inLoop c) rfl (fun _ _=>.inl kc) harr⟩
 | outgrown=>exact ⟨_,a₁,w₁,hq,.pass (x:=.inLoop c) rfl (fun _ _=>.inl kc) harr⟩
def XOk (P:Program) (E:Env) (n:Nat):Prop :=
 ∀ (K:Nat) (c:Code) (ac:AC) (tm:Tr V) (σ:St) (e:AX) (tm' : Tr V) (σ' : St),eY P K ac c=true→exec E n ac tm σ=some (e,tm',σ')→∀ (N:Nat) (w0:World) (φ:Ph) (a:Act) (w:World),Rel N w0 φ σ w→RT φ tm a→K≤a.tmps.size →
  ∀ Q:Exit→Act→World→Prop,(∀ a' w',After N w0 φ σ σ' tm' a K a' w'→Q (cX e) a' w')→c.wp P Q a w
def LOk (P:Program) (E:Env) (n:Nat):Prop :=
 ∀ (K:Nat) (c:Code) (ac:AC) (tm:Tr V) (σ:St) (e:AX) (tm' : Tr V) (σ' : St),eY P K ac c=true→exec E n (.loop ac) tm σ=some (e,tm',σ')→∀ (N:Nat) (w0:World) (φ:Ph) (a:Act) (w:World),Rel N w0 φ σ w→RT φ tm a→K≤a.tmps.size →
  ∀ Q:Exit→Act→World→Prop,(∀ a' w',After N w0 φ σ σ' tm' a K a' w'→Q (cX e) a' w')→LoopIn P c Q a w
theorem aaK {E:Env} {n:Nat} (hX:XOk P E n) (hL:LOk P E n):LOk P E (n+1):=by
 intro K c ac tm σ e tm' σ' hi h N w0 φ a w hR ht hK Q hQ
 simp only [exec,ahg] at h
 refine PS ?_
 cases hx:exec E n ac tm σ with
 | none=>rw [hx] at h;cases h
 | some r =>
  obtain ⟨e1,EI,σ1⟩:=r
  rw [hx] at h
  cases e1 with
  | normal =>
   simp only at h
   refine hX K c ac tm σ .normal EI σ1 hi hx N w0 φ a w hR ht hK _ fun a1 w1 hA=>?_
   obtain ⟨q1,q2,φ1,q3,q4,q5,q6⟩:=hA
   exact hL K c ac EI σ1 e tm' σ' hi h N w0 φ1 a1 w1 q4 q5 q2 Q fun a2 w2 hA2=>hQ a2 w2 (hA2.trans q1 q3 q6)
  | exit i =>
   simp only [Option.some.injEq,Prod.mk.injEq] at h
   obtain ⟨rfl,rfl,rfl⟩:=h
   exact hX K c ac tm σ _ _ _ hi hx N w0 φ a w hR ht hK _ fun a1 w1 hA=>hQ a1 w1 hA
  | ret =>
   simp only [Option.some.injEq,Prod.mk.injEq] at h
   obtain ⟨rfl,rfl,rfl⟩:=h
   exact hX K c ac tm σ _ _ _ hi hx N w0 φ a w hR ht hK _ fun a1 w1 hA=>hQ a1 w1 hA
theorem aaL [WC:mW P] {E:Env} (hm:P.follows .mixedOrders=true) {n:Nat} (hX:XOk P E n) (hL:LOk P E (n+1)) (hC:PL P (ig E n)):XOk P E (n+1):=by
 intro K c ac tm σ e tm' σ' hi h N w0 φ a w hR ht hK Q hQ
 cases ac with
 | skip =>
  simp only [exec,Option.some.injEq,Prod.mk.injEq] at h
  obtain ⟨rfl,rfl,rfl⟩:=h
  have hA:After N w0 φ σ σ tm a K a w:=⟨rfl,hK,φ,Ext.refl _ _,hR,ht,jp⟩
  cases c <;> simp only [eY,Bool.false_eq_true,reduceCtorEq] at hi
  case skip=>exact wp_skip (hQ a w hA)
  case label=>exact wp_label (hQ a w hA)
 | ops l =>
  simp only [exec,SY] at h
  cases c <;> (try (simp only [eY,Bool.false_eq_true] at hi;done))
  case region id ops dr =>
   cases dr with
   | true=>simp only [eY,Bool.false_eq_true] at hi
   | false =>
    simp only [eY] at hi
    split at h
    ·next EI σ1 hr =>
     simp only [Option.some.injEq,Prod.mk.injEq] at h
     obtain ⟨rfl,rfl,rfl⟩:=h
     exact Tn hC hi hR ht hK hr hQ
    ·cases h
 | drawn d pt ds =>
  simp only [exec,xDr,SY] at h
  cases c <;> (try (simp only [eY,Bool.false_eq_true] at hi;done))
  case region id ops dr =>
   cases dr with
   | false=>simp only [eY,Bool.false_eq_true] at hi
   | true =>
    simp only [eY] at hi
    split at h
    ·next bf he =>
     split at h
     ·next EI σ1 hr =>
      simp only [Option.some.injEq,Prod.mk.injEq] at h
      obtain ⟨rfl,rfl,rfl⟩:=h
      exact WJ hC hm hi hR ht hK he hr hQ
     ·cases h
    ·cases h
 | seq x y =>
  simp only [exec,ahg] at h
  cases c <;> (try (simp only [eY,Bool.false_eq_true] at hi;done))
  case seq ca cb =>
   simp only [eY,Bool.and_eq_true] at hi
   refine wp_seq ?_
   cases hx:exec E n x tm σ with
   | none=>rw [hx] at h;cases h
   | some r =>
    obtain ⟨e1,EI,σ1⟩:=r
    rw [hx] at h
    cases e1 with
    | normal =>
     simp only at h
     refine hX K ca x tm σ .normal EI σ1 hi.1 hx N w0 φ a w hR ht hK _ fun a1 w1 hA=>?_
     obtain ⟨q1,q2,φ1,q3,q4,q5,q6⟩:=hA
     exact hX K cb y EI σ1 e tm' σ' hi.2 h N w0 φ1 a1 w1 q4 q5 q2 Q fun a2 w2 hA2=>hQ a2 w2 (hA2.trans q1 q3 q6)
    | exit i =>
     simp only [Option.some.injEq,Prod.mk.injEq] at h
     obtain ⟨rfl,rfl,rfl⟩:=h
     exact hX K ca x tm σ _ _ _ hi.1 hx N w0 φ a w hR ht hK _ fun a1 w1 hA=>hQ a1 w1 hA
    | ret =>
     simp only [Option.some.injEq,Prod.mk.injEq] at h
     obtain ⟨rfl,rfl,rfl⟩:=h
     exact hX K ca x tm σ _ _ _ hi.1 hx N w0 φ a w hR ht hK _ fun a1 w1 hA=>hQ a1 w1 hA
 | cond x y z =>
  simp only [exec,YH] at h
  cases c <;> (try (simp only [eY,Bool.false_eq_true] at hi;done))
  case cond cc ca cb =>
   simp only [eY,Bool.and_eq_true] at hi
   have hx:=bV hi.1 ht
   split at h
   ·next t hev =>
    rw [hev] at hx
    have hx:a.eval cc = .bool t:=hx
    refine wp_cond hx ?_
    cases t with
    | true=>exact hX K ca y tm σ e tm' σ' hi.2.1 h N w0 φ a w hR ht hK Q hQ
    | false=>exact hX K cb z tm σ e tm' σ' hi.2.2 h N w0 φ a w hR ht hK Q hQ
   ·cases h
 | block j x =>
  simp only [exec,adh] at h
  cases c <;> (try (simp only [eY,Bool.false_eq_true] at hi;done))
  case block i ca =>
   simp only [eY,Bool.and_eq_true] at hi
   have hij:=Nat.eq_of_beq_eq_true hi.1
   subst hij
   refine wp_block ?_
   cases hx:exec E n x tm σ with
   | none=>rw [hx] at h;cases h
   | some r =>
    obtain ⟨e1,EI,σ1⟩:=r
    rw [hx] at h
    cases e1 with
    | normal =>
     simp only [Option.some.injEq,Prod.mk.injEq] at h
     obtain ⟨rfl,rfl,rfl⟩:=h
     exact hX K ca x tm σ _ _ _ hi.2 hx N w0 φ a w hR ht hK _ fun a1 w1 hA=>hQ a1 w1 hA
    | exit k =>
     simp only [Option.some.injEq,Prod.mk.injEq] at h
     obtain ⟨he,rfl,rfl⟩:=h
     refine hX K ca x tm σ _ _ _ hi.2 hx N w0 φ a w hR ht hK _ fun a1 w1 hA=>?_
     have:=hQ a1 w1 hA
     rw [← he] at this
     show if k=i then Q .normal a1 w1 else Q (.exit k) a1 w1
     rw [kW] at this
     by_cases hk:k=i
     ·rw [if_pos hk] at this ⊢;exact this
     ·rw [if_neg hk] at this ⊢;exact this
    | ret =>
     simp only [Option.some.injEq,Prod.mk.injEq] at h
     obtain ⟨rfl,rfl,rfl⟩:=h
     exact hX K ca x tm σ _ _ _ hi.2 hx N w0 φ a w hR ht hK _ fun a1 w1 hA=>hQ a1 w1 hA
 | loop x =>
  cases c <;> (try (simp only [eY,Bool.false_eq_true] at hi;done))
  case loop ca =>
   simp only [eY] at hi
   exact aaJ (hL K ca x tm σ e tm' σ' hi h N w0 φ a w hR ht hK Q hQ)
 | exit j =>
  simp only [exec,Option.some.injEq,Prod.mk.injEq] at h
  obtain ⟨rfl,rfl,rfl⟩:=h
  cases c <;> (try (simp only [eY,Bool.false_eq_true] at hi;done))
  case exit i =>
   simp only [eY] at hi
   have hij:=Nat.eq_of_beq_eq_true hi
   subst hij
   exact wp_exit (hQ a w ⟨rfl,hK,φ,Ext.refl _ _,hR,ht,jp⟩)
 | ret =>
  simp only [exec,Option.some.injEq,Prod.mk.injEq] at h
  obtain ⟨rfl,rfl,rfl⟩:=h
  cases c <;> (try (simp only [eY,Bool.false_eq_true] at hi;done))
  case ret=>exact wp_ret (hQ a w ⟨rfl,hK,φ,Ext.refl _ _,hR,ht,jp⟩)
 | bad=>simp only [exec,reduceCtorEq] at h
theorem aaM {E:Env} (hE:NQ P E) {n:Nat} (hX:XOk P E n):PL P (ig E (n+1)):=by
 intro f args σ v σ' h N w0 φ w aG hR ha
 simp only [ig,Di,aaA] at h
 split at h
 ·next u hu =>
  obtain ⟨h1,h2⟩:=hE.orc f args σ v σ' (by rw [hu,← h])
  exact ⟨h1,h2 N w0 φ w aG hR ha⟩
 ·split at h
  ·next F hF =>
   have hi:=hE.fns f F hF
   unfold Tv at hi
   split at hi
   ·next fn hfn =>
    split at hi
    ·next c hc =>
     simp only [Bool.and_eq_true,Bool.not_eq_true'] at hi
     obtain ⟨i1,i2,i3⟩:=hi
     refine ⟨⟨fn,hfn,by rw [hc];rfl,i1⟩,?_⟩
     split at h
     ·next tm Ht =>
      have hget:=JK args 0 .leaf tm Ht
      have hK:fn.ntmps≤({ tmps:=aG ++ Array.replicate (fn.ntmps - aG.size) undef,defers:=[] } : Act).tmps.size:=by simp;omega
      have ht:RT φ tm { tmps:=aG ++ Array.replicate (fn.ntmps - aG.size) undef,defers:=[] }:=fun j u hu=>by
       rw [hget j] at hu
       split at hu
       ·obtain ⟨cu,h1,h2⟩:=ha.get _ _ hu
        simp only [Nat.sub_zero,Array.getElem?_toList] at h1
        have hj:j<aG.size:=by
         rcases Nat.lt_or_ge j aG.size with h|h
         ·exact h
         ·rw [Array.getElem?_eq_none h] at h1;cases h1
        have h3:(aG ++ Array.replicate (fn.ntmps - aG.size) undef)[j]?=some cu:=by rw [Array.getElem?_append_left hj];exact h1
        simp only [Array.getD_eq_getD_getElem?,h3]
        exact h2
       ·rw [Tr.C9] at hu;cases hu
      have fin : ∀ (e:AX) (EI:Tr V) (σ1:St),exec E n F.body tm σ=some (e,EI,σ1)→e = .normal∨e = .ret→(match result EI σ1 F.res with|some v=>some (v,σ1)|none=>none)=some (v,σ') →
        Calls P f aG w fun e w'=>∃ cv,e = .returned cv∧∃ φ',Ext σ.ah φ φ'∧Rel N w0 φ' σ' w'∧RV φ' v cv∧σ.ah≤σ'.ah:=by
       intro e EI σ1 hx he hr
       split at hr
       ·next u hu =>
        simp only [Option.some.injEq,Prod.mk.injEq] at hr
        obtain ⟨rfl,rfl⟩:=hr
        refine calls_of_wp hfn hc (hX fn.ntmps c F.body tm σ e EI σ1 i2 hx N w0 φ _ w hR ht hK _ fun a1 w1 hA=>?_)
        obtain ⟨q1,q2,φ1,q3,q4,q5,q6⟩:=hA
        obtain ⟨cv,r1,r2⟩:=Tz (P:=P) q4 q5 i3 hu
        have hpost:a1.defers=[]∧∃ v',(results fn a1.tmps).run P w1 = .ok v' w1∧∃ cv,Ending.returned v' = .returned cv∧∃ φ',Ext σ.ah φ φ'∧Rel N w0 φ' σ1 w1∧RV φ' u cv∧σ.ah≤σ1.ah :=
         ⟨q1,cv,r1,cv,rfl,φ1,q3,q4,r2,q6⟩
        rcases he with rfl|rfl
        ·exact hpost
        ·exact hpost
       ·cases hr
      split at h
      ·next EI σ1 hx=>exact fin _ _ _ hx (.inl rfl) h
      ·next EI σ1 hx=>exact fin _ _ _ hx (.inr rfl) h
      ·cases h
     ·cases h
    ·cases hi
   ·cases hi
  ·cases h
theorem NR [WC:mW P] {E:Env} (hE:NQ P E) (hm:P.follows .mixedOrders=true) : ∀ n,XOk P E n∧LOk P E n∧PL P (ig E n)
 | 0=>⟨fun K c ac tm σ e tm' σ' _ h=>by simp only [exec,reduceCtorEq] at h,fun K c ac tm σ e tm' σ' _ h=>by simp only [exec,reduceCtorEq] at h,fun f args σ v σ' h=>by simp only [ig,reduceCtorEq] at h⟩
 | n+1=>by
  obtain ⟨h1,h2,h3⟩:=NR hE hm n
  have hL:=aaK h1 h2
  exact ⟨aaL hm h1 hL h3,hL,aaM hE h1⟩
theorem EL [WC:mW P] {E:Env} (hE:NQ P E) (hm:P.follows .mixedOrders=true) {n f:Nat} {args:List V} {σ σ' : St} {v:V} (h:ig E n f args σ=some (v,σ')) {N:Nat} {w0 w:World} {φ:Ph} {aG:Array Value} (hR:Rel N w0 φ σ w) (ha:wE φ args aG.toList) :
  Calls P f aG w fun e w'=>∃ cv,e = .returned cv∧∃ φ',Ext σ.ah φ φ'∧Rel N w0 φ' σ' w'∧RV φ' v cv∧σ.ah≤σ'.ah :=
 ((NR hE hm n).2.2 f args σ v σ' h N w0 φ w aG hR ha).2
end
/-! ### More steps do no harm -/
def aaN (cl cl' : Nat→List V→St→Option (V×St)):Prop:=∀ f args σ r,cl f args σ=some r→cl' f args σ=some r
section
variable {cl cl' : Nat→List V→St→Option (V×St)}
theorem TA (h:aaN cl cl') {op:qL} {tm:Tr V} {σ:St} {r:V×St} (hs:lZ cl op tm σ=some r):lZ cl' op tm σ=some r:=by
 unfold lZ at hs ⊢
 split at hs
 ·exact hs
 ·exact hs
 ·exact hs
 ·next e =>
  split at hs
  ·next f args e2=>exact h _ _ _ _ hs
  ·cases hs
theorem Dq (h:aaN cl cl') {o:AO} {tm:Tr V} {σ:St} {r:V×St} (hs:stepG cl o tm σ=some r):stepG cl' o tm σ=some r:=by
 unfold stepG at hs ⊢
 split at hs
 ·exact TA h hs
 ·exact hs
 ·cases hs
theorem EM (h:aaN cl cl') : ∀ {l:List AO} {tm:Tr V} {σ:St} {r:Tr V×St},oQ cl l tm σ=some r→oQ cl' l tm σ=some r
 | [],_,_,_,hs=>hs
 | o::l,tm,σ,r,hs=>by
  unfold oQ at hs ⊢
  split at hs
  ·next v σ' e =>
   rw [Dq h e]
   dsimp only
   split at hs
   ·next tm' e2=>exact EM h hs
   ·cases hs
  ·cases hs
theorem PU (h:aaN cl cl') {pt:List (List Nat)} {bZ bf:Tr V} : ∀ {d:Dr} {σ:St} {res:List Rs} {pd:List iD} {r:Tr V×St},yL cl pt bZ bf d σ res pd=some r→yL cl' pt bZ bf d σ res pd=some r
 | .fin qs,σ,res,pd,r,hs=>by unfold yL at hs ⊢;exact hs
 | .act qs x d,σ,res,pd,r,hs=>by
  unfold yL at hs ⊢
  split at hs
  ·next σ1 res1 pd1 e =>
   cases hb:pd1.all (again σ1) with
   | false=>rw [hb] at hs;cases hs
   | true =>
    rw [hb] at hs
    simp only [cond_true] at hs ⊢
    split at hs
    ·next tm e2 =>
     split at hs
     ·next v σ2 e3 =>
      rw [Dq h e3]
      exact PU h hs
     ·cases hs
    ·cases hs
  ·cases hs
end
theorem PV (E:Env) : ∀ n,(∀ c tm σ r,exec E n c tm σ=some r→exec E (n+1) c tm σ=some r)∧aaN (ig E n) (ig E (n+1))
 | 0=>⟨fun c tm σ r h=>by simp only [exec,reduceCtorEq] at h,fun f args σ r h=>by simp only [ig,reduceCtorEq] at h⟩
 | n+1=>by
  obtain ⟨h1,h2⟩:=PV E n
  refine ⟨fun c tm σ r h=>?_,fun f args σ r h=>?_⟩
  ·cases c with
   | skip=>simp only [exec] at h ⊢;exact h
   | ops l =>
    simp only [exec,SY] at h ⊢
    split at h
    ·next tm' σ' e=>rw [EM h2 e];exact h
    ·cases h
   | drawn d pt ds =>
    simp only [exec,xDr,SY] at h ⊢
    split at h
    ·next bf e =>
     split at h
     ·next tm' σ' e2=>rw [PU h2 e2];exact h
     ·cases h
    ·cases h
   | seq a b =>
    rw [exec] at h ⊢
    cases hx:exec E n a tm σ with
    | none=>rw [hx] at h;cases h
    | some q =>
     rw [hx] at h
     rw [h1 _ _ _ _ hx]
     obtain ⟨e,tm',σ'⟩:=q
     cases e with
     | normal=>exact h1 _ _ _ _ h
     | exit i=>exact h
     | ret=>exact h
   | cond x a b =>
    simp only [exec,YH] at h ⊢
    split at h
    ·exact h1 _ _ _ _ h
    ·cases h
   | block i a =>
    rw [exec] at h ⊢
    cases hx:exec E n a tm σ with
    | none=>rw [hx] at h;cases h
    | some q=>rw [hx] at h;rw [h1 _ _ _ _ hx];exact h
   | loop a =>
    rw [exec] at h ⊢
    cases hx:exec E n a tm σ with
    | none=>rw [hx] at h;cases h
    | some q =>
     rw [hx] at h
     rw [h1 _ _ _ _ hx]
     obtain ⟨e,tm',σ'⟩:=q
     cases e with
     | normal=>exact h1 _ _ _ _ h
     | exit i=>exact h
     | ret=>exact h
   | exit i=>simp only [exec] at h ⊢;exact h
   | ret=>simp only [exec] at h ⊢;exact h
   | bad=>simp only [exec,reduceCtorEq] at h
  ·rw [ig] at h ⊢
   unfold Di at h ⊢
   split at h
   ·exact h
   ·split at h
    ·split at h
     ·next tm e =>
      unfold aaA at h ⊢
      split at h
      ·next tm' σ' e2=>rw [h1 _ _ _ _ e2];exact h
      ·next tm' σ' e2=>rw [h1 _ _ _ _ e2];exact h
      ·cases h
     ·cases h
    ·cases h
theorem zZ {E:Env} {n m:Nat} (h:n≤m) {c:AC} {tm:Tr V} {σ:St} {r:AX×Tr V×St} (hx:exec E n c tm σ=some r):exec E m c tm σ=some r:=by
 induction h with
 | refl=>exact hx
 | step _ ih=>exact (PV E _).1 _ _ _ _ ih
theorem lC {E:Env} {n m:Nat} (h:n≤m):aaN (ig E n) (ig E m):=by
 induction h with
 | refl=>exact fun _ _ _ _ h=>h
 | step _ ih=>exact fun f args σ r hx=>(PV E _).2 _ _ _ _ (ih f args σ r hx)
/-! ### What comes of a run -/
def aO (E:Env) (f:Nat) (args:List V) (σ:St) (Q:V→St→Prop):Prop:=∃ n v σ',ig E n f args σ=some (v,σ')∧Q v σ'
def bM (E:Env) (c:AC) (tm:Tr V) (σ:St) (Q:AX→Tr V→St→Prop):Prop:=∃ n e tm' σ',exec E n c tm σ=some (e,tm',σ')∧Q e tm' σ'
section
variable {E:Env} {tm:Tr V} {σ:St} {Q Q' : AX→Tr V→St→Prop}
theorem aO.mono {f:Nat} {args:List V} {K K' : V→St→Prop} (h:aO E f args σ K) (hk : ∀ v σ',K v σ'→K' v σ'):aO E f args σ K':=by
 obtain ⟨n,v,σ',h1,h2⟩:=h
 exact ⟨n,v,σ',h1,hk _ _ h2⟩
theorem bM.mono {c:AC} (h:bM E c tm σ Q) (hk : ∀ e tm' σ',Q e tm' σ'→Q' e tm' σ'):bM E c tm σ Q':=by
 obtain ⟨n,e,tm',σ',h1,h2⟩:=h
 exact ⟨n,e,tm',σ',h1,hk _ _ _ h2⟩
def PW (E:Env) (b:AC) (Q:AX→Tr V→St→Prop):AX→Tr V→St→Prop
 | .normal,tm,σ=>bM E b tm σ Q
 | e,tm,σ=>Q e tm σ
theorem run_seq {a b:AC} (h:bM E a tm σ (PW E b Q)):bM E (.seq a b) tm σ Q:=by
 obtain ⟨n,e,tm',σ',h1,h2⟩:=h
 cases e with
 | normal =>
  obtain ⟨m,e2,tm2,σ2,h3,h4⟩:=h2
  refine ⟨n+m+1,e2,tm2,σ2,?_,h4⟩
  rw [exec,zZ jb h1]
  exact zZ jb h3
 | exit i=>exact ⟨n+1,_,tm',σ',by rw [exec,h1];rfl,h2⟩
 | ret=>exact ⟨n+1,_,tm',σ',by rw [exec,h1];rfl,h2⟩
theorem TB (h:Q .normal tm σ):bM E .skip tm σ Q:=⟨1,_,_,_,by rw [exec],h⟩
theorem adz {i:Nat} (h:Q (.exit i) tm σ):bM E (.exit i) tm σ Q:=⟨1,_,_,_,by rw [exec],h⟩
theorem ahA (h:Q .ret tm σ):bM E .ret tm σ Q:=⟨1,_,_,_,by rw [exec],h⟩
theorem adA {x:O} {a b:AC} {t:Bool} (hx:x.ev tm = .c (.bool t)) (h:bM E (bif t then a else b) tm σ Q):bM E (.cond x a b) tm σ Q:=by
 obtain ⟨n,e,tm',σ',h1,h2⟩:=h
 exact ⟨n+1,e,tm',σ',by rw [exec,hx];exact h1,h2⟩
def adB (i:Nat) (Q:AX→Tr V→St→Prop):AX→Tr V→St→Prop
 | .exit j,tm,σ=>Q (bif Nat.beq j i then .normal else .exit j) tm σ
 | e,tm,σ=>Q e tm σ
theorem Aa {i:Nat} {a:AC} (h:bM E a tm σ (adB i Q)):bM E (.block i a) tm σ Q:=by
 obtain ⟨n,e,tm',σ',h1,h2⟩:=h
 cases e with
 | normal=>exact ⟨n+1,_,tm',σ',by rw [exec,h1];rfl,h2⟩
 | exit j=>exact ⟨n+1,_,tm',σ',by rw [exec,h1];rfl,h2⟩
 | ret=>exact ⟨n+1,_,tm',σ',by rw [exec,h1];rfl,h2⟩
def ahB (I:Nat→Tr V→St→Prop) (m:Nat) (Q:AX→Tr V→St→Prop):AX→Tr V→St→Prop
 | .normal,tm,σ=>∃ m',m' < m∧I m' tm σ
 | e,tm,σ=>Q e tm σ
theorem aN {a:AC} (I:Nat→Tr V→St→Prop) (m:Nat) (h0:I m tm σ) (h : ∀ m tm σ,I m tm σ→bM E a tm σ (ahB I m Q)):bM E (.loop a) tm σ Q:=by
 induction m using Nat.strongRecOn generalizing tm σ with
 | ind m ih =>
  obtain ⟨n,e,tm',σ',h1,h2⟩:=h m tm σ h0
  cases e with
  | normal =>
   obtain ⟨m',hlt,hI⟩:=h2
   obtain ⟨k,e2,tm2,σ2,h3,h4⟩:=ih m' hlt hI
   refine ⟨n+k+1,e2,tm2,σ2,?_,h4⟩
   rw [exec,zZ jb h1]
   exact zZ jb h3
  | exit i=>exact ⟨n+1,_,tm',σ',by rw [exec,h1];rfl,h2⟩
  | ret=>exact ⟨n+1,_,tm',σ',by rw [exec,h1];rfl,h2⟩
/-! ### Operations -/
noncomputable def Ap (tm:Tr V) (d:Option Nat) (v:V):Tr V:=match d with|none=>tm|some d=>tm.set d (some v)
theorem Dt (tm:Tr V) (d:Option Nat) (v:V):Bf tm d v=some (Ap tm d v):=by cases d <;> rfl
def wpOp (E:Env) (op:qL) (tm:Tr V) (σ:St) (K:V→St→Prop):Prop :=
 match op with
 | .call g args=>match g.ev tm with
  | .fn f caps=>aO E f (args.map (·.ev tm) ++ caps.map .c) σ K
  | _=>False
 | op=>match lZ (fun _ _ _=>none) op tm σ with|some (v,σ')=>K v σ'|none=>False
def wpG (E:Env) (o:AO) (tm:Tr V) (σ:St) (K:V→St→Prop):Prop :=
 match gate o.g tm with
 | some true=>wpOp E o.op tm σ K
 | some false=>K .tnil σ
 | none=>False
def wpOps (E:Env):List AO→Tr V→St→(Tr V→St→Prop)→Prop
 | [],tm,σ,Q=>Q tm σ
 | o::r,tm,σ,Q=>wpG E o tm σ fun v σ'=>wpOps E r (Ap tm o.dst v) σ' Q
theorem aaO {op:qL} {K:V→St→Prop} (h:wpOp E op tm σ K) : ∃ n v σ',lZ (ig E n) op tm σ=some (v,σ')∧K v σ':=by
 unfold wpOp at h
 split at h
 ·next g args =>
  split at h
  ·next f caps e =>
   obtain ⟨n,v,σ',h1,h2⟩:=h
   refine ⟨n,v,σ',?_,h2⟩
   unfold lZ
   simp only [qL.kind,YF,e,h1]
  ·exact h.elim
 ·split at h
  ·next v σ' e=>exact ⟨0,v,σ',TA (cl:=fun _ _ _=>none) (fun _ _ _ _ h=>by cases h) e,h⟩
  ·exact h.elim
theorem TD {o:AO} {K:V→St→Prop} (h:wpG E o tm σ K) : ∃ n v σ',stepG (ig E n) o tm σ=some (v,σ')∧K v σ':=by
 unfold wpG at h
 split at h
 ·next e =>
  obtain ⟨n,v,σ',h1,h2⟩:=aaO h
  exact ⟨n,v,σ',by unfold stepG;rw [e];exact h1,h2⟩
 ·next e=>exact ⟨0,_,_,by unfold stepG;rw [e],h⟩
 ·exact h.elim
theorem JL : ∀ {l:List AO} {tm:Tr V} {σ:St} {Q:Tr V→St→Prop},wpOps E l tm σ Q→∃ n tm' σ',oQ (ig E n) l tm σ=some (tm',σ')∧Q tm' σ'
 | [],tm,σ,Q,h=>⟨0,tm,σ,rfl,h⟩
 | o::l,tm,σ,Q,h=>by
  obtain ⟨n,v,σ1,h1,h2⟩:=TD (show wpG E o tm σ _ from h)
  obtain ⟨m,tm',σ',h3,h4⟩:=JL h2
  refine ⟨n+m,tm',σ',?_,h4⟩
  unfold oQ
  rw [Dq (lC jb) h1]
  dsimp only
  rw [Dt]
  exact EM (lC jb) h3
theorem ahC {l:List AO} (h:wpOps E l tm σ fun tm' σ'=>Q .normal tm' σ'):bM E (.ops l) tm σ Q:=by
 obtain ⟨n,tm',σ',h1,h2⟩:=JL h
 exact ⟨n+1,.normal,tm',σ',by rw [exec,h1];rfl,h2⟩
/-! ### A region that draws its order -/
def TF (E:Env) (pt:List (List Nat)) (bZ bf:Tr V):Dr→St→List Rs→List iD→(Tr V→St→Prop)→Prop
 | .fin qs,σ,res,pd,Q=>(match rJ bZ bf qs σ res pd with
  | some (σ,res,pd)=>pd.all (again σ)=true∧(match Ey bf res with|some tm=>Q tm σ|none=>False)
  | none=>False)
 | .act qs x r,σ,res,pd,Q=>(match rJ bZ bf qs σ res pd with
  | some (σ,res,pd)=>pd.all (again σ)=true∧(match Jq bZ bf res x.us x.os with
   | some tm=>wpG E x.o tm σ fun v σ'=>TF E pt bZ bf r σ' (⟨x.i,x.o.dst,v⟩::res) (pd.filter fun p=>!((pt.getD x.i []).contains p.i)) Q
   | none=>False)
  | none=>False)
theorem TG {pt:List (List Nat)} {bZ bf:Tr V} : ∀ {d:Dr} {σ:St} {res:List Rs} {pd:List iD} {Q:Tr V→St→Prop},TF E pt bZ bf d σ res pd Q→∃ n tm' σ',yL (ig E n) pt bZ bf d σ res pd=some (tm',σ')∧Q tm' σ'
 | .fin qs,σ,res,pd,Q,h=>by
  unfold TF at h
  split at h
  ·next σ1 res1 pd1 e =>
   obtain ⟨h1,h2⟩:=h
   split at h2
   ·next tm e2=>exact ⟨0,tm,σ1,by unfold yL;rw [e];dsimp only;rw [h1,e2];rfl,h2⟩
   ·exact h2.elim
  ·exact h.elim
 | .act qs x r,σ,res,pd,Q,h=>by
  unfold TF at h
  split at h
  ·next σ1 res1 pd1 e =>
   obtain ⟨h1,h2⟩:=h
   split at h2
   ·next tm e2 =>
    obtain ⟨n,v,σ2,h3,h4⟩:=TD h2
    obtain ⟨m,tm',σ',h5,h6⟩:=TG h4
    refine ⟨n+m,tm',σ',?_,h6⟩
    unfold yL
    rw [e]
    dsimp only
    rw [h1,e2]
    simp only [cond_true]
    rw [Dq (lC jb) h3]
    exact PU (lC jb) h5
   ·exact h2.elim
  ·exact h.elim
theorem aaP {d:Dr} {pt:List (List Nat)} {ds:List Nat} (bf:Tr V) (he:xC tm ds=some bf) (h:TF E pt tm bf d σ [] [] fun tm' σ'=>Q .normal tm' σ'):bM E (.drawn d pt ds) tm σ Q:=by
 obtain ⟨n,tm',σ',h1,h2⟩:=TG h
 exact ⟨n+1,.normal,tm',σ',by rw [exec];unfold xDr;rw [he];dsimp only;rw [h1];rfl,h2⟩
/-! ### Calls -/
noncomputable def adC:List V→Nat→Tr V→Tr V
 | [],_,t=>t
 | v::r,i,t=>adC r (i+1) (t.set i (some v))
noncomputable def ini (args:List V):Tr V:=adC args 0 .leaf
theorem JM : ∀ (args:List V) (i:Nat) (t:Tr V),Dh args i t=some (adC args i t)
 | [],_,_=>rfl
 | v::r,i,t=>by
  unfold Dh
  show Dh r (i+1) (t.set i (some v))=_
  rw [JM r (i+1)];rfl
theorem TJ : ∀ (args:List V) (i:Nat) (t:Tr V) (j:Nat),(adC args i t).get j=if i≤j∧j<i+args.length then args[j - i]? else t.get j
 | [],i,t,j=>by
  rw [if_neg (by simp only [List.length_nil];omega)];rfl
 | v::r,i,t,j=>by
  show (adC r (i+1) (t.set i (some v))).get j=_
  rw [TJ r (i+1)]
  simp only [List.length_cons]
  by_cases h:i+1≤j∧j<i+1+r.length
  ·rw [if_pos h,if_pos (by omega),show j - i=(j - (i+1))+1 by omega,List.getElem?_cons_succ]
  ·rw [if_neg h,Tr.lN]
   by_cases h2:j=i
   ·subst h2
    rw [if_pos rfl,if_pos (by omega),Nat.sub_self];rfl
   ·rw [if_neg h2,if_neg (by omega)]
theorem uV (args:List V) (j:Nat):(ini args).get j=args[j]?:=by
 unfold ini
 rw [TJ]
 by_cases h:j<args.length
 ·rw [if_pos jb];rfl
 ·rw [if_neg jb,List.getElem?_eq_none jb,Tr.C9]
theorem WL (args:List V):Dh args 0 .leaf=some (ini args):=JM args 0 .leaf
def aaQ (res:List (Nat×Option (Nat×Bool))) (K:V→St→Prop):AX→Tr V→St→Prop
 | .exit _,_,_=>False
 | _,tm,σ=>∃ v,result tm σ res=some v∧K v σ
theorem bF {f:Nat} {args:List V} {F:AF} {K:V→St→Prop} (ho:E.orc f args σ=none) (hF:E.fns f=some F) (h:bM E F.body (ini args) σ (aaQ F.res K)):aO E f args σ K:=by
 obtain ⟨n,e,tm',σ',h1,h2⟩:=h
 cases e with
 | exit i=>exact h2.elim
 | normal =>
  obtain ⟨v,h3,h4⟩:=h2
  exact ⟨n+1,v,σ',by rw [ig];unfold Di;rw [ho,hF];dsimp only;rw [WL];dsimp only;rw [h1];unfold aaA;dsimp only;rw [h3],h4⟩
 | ret =>
  obtain ⟨v,h3,h4⟩:=h2
  exact ⟨n+1,v,σ',by rw [ig];unfold Di;rw [ho,hF];dsimp only;rw [WL];dsimp only;rw [h1];unfold aaA;dsimp only;rw [h3],h4⟩
theorem TK {f:Nat} {args:List V} {v:V} {σ' : St} {K:V→St→Prop} (ho:E.orc f args σ=some (v,σ')) (h:K v σ'):aO E f args σ K :=
 ⟨1,v,σ',by rw [ig];unfold Di;rw [ho],h⟩
end
end Go.Proofs.Xe
