/- The executor: blocks of equal elements, frames with exceptions, sizes. -/
import Derived.Test.YtiaefgffeekfkaaGreatDoorY22
import Derived.Attr
set_option linter.unusedSimpArgs false
set_option linter.unusedVariables false
namespace Go.Proofs.Xe
open Go.RowKit Go.Proofs.Ins
noncomputable def ersV (tm:Tr V):List Nat→Tr V
 | []=>tm
 | d::l=>(ersV tm l).set d none
theorem eraseT_eq (tm:Tr V) : ∀ ds,eraseT tm ds=some (ersV tm ds)
 | []=>rfl
 | d::l=>by
  unfold eraseT
  rw [eraseT_eq tm l]
  rfl
theorem ers_get (tm:Tr V) (j:Nat) : ∀ ds:List Nat,ds.contains j=false→(ersV tm ds).get j=tm.get j
 | [],_=>rfl
 | d::l,h=>by
  rw [List.contains_cons,Bool.or_eq_false_iff] at h
  show ((ersV tm l).set d none).get j=_
  rw [Tr.get_set,if_neg (by simpa using h.1),ers_get tm j l h.2]
theorem getV_ers (tm:Tr V) (ds:List Nat) (j:Nat) (h:ds.contains j=false):Tr.getV (ersV tm ds) j=Tr.getV tm j:=by
 unfold Tr.getV
 rw [ers_get tm j ds h]
def fnd:List Rs→Nat→Option Rs
 | [],_=>none
 | r::l,u=>bif Nat.beq r.i u then some r else fnd l u
theorem find_fnd (u:Nat) : ∀ l:List Rs,l.find? (fun r=>Nat.beq r.i u)=fnd l u
 | []=>rfl
 | r::l=>by
  rw [List.find?_cons,fnd,find_fnd u l]
  cases Nat.beq r.i u <;> rfl
noncomputable def tmO:Option (Tr V)→Option Rs→Option (Tr V)
 | some tm,some r=>some (setV tm r.d r.v)
 | _,_=>none
theorem tmOf_nil (tm0:Tr V) (res:List Rs):tmOf tm0 res []=some tm0:=rfl
theorem tmOf_cons (tm0:Tr V) (res:List Rs) (u:Nat) (us:List Nat):tmOf tm0 res (u::us)=tmO (tmOf tm0 res us) (fnd res u):=by
 rw [tmOf,find_fnd]
 cases tmOf tm0 res us with
 | none=>rfl
 | some tm =>
  cases fnd res u with
  | none=>rfl
  | some r=>show setT tm r.d r.v=_;rw [setT_eq];rfl
theorem tmO_some (tm:Tr V) (i:Nat) (d:Option Nat) (v:V):tmO (some tm) (some ⟨i,d,v⟩)=some (setV tm d v):=rfl
theorem fnd_hit (i:Nat) (d:Option Nat) (v:V) (l:List Rs):fnd (⟨i,d,v⟩::l) i=some ⟨i,d,v⟩:=by unfold fnd;simp
theorem fnd_miss (i u:Nat) (d:Option Nat) (v:V) (l:List Rs) (h:i≠u):fnd (⟨i,d,v⟩::l) u=fnd l u:=by rw [fnd,beq_n h];rfl
theorem oldOf_nil (tmE tm:Tr V):oldOf tmE tm []=some tm:=rfl
theorem oldOf_cons (tmE tm:Tr V) (t:Nat) (l:List Nat):oldOf tmE tm (t::l)=match oldOf tmE tm l with|some tm=>some (setV tm (some t) (tmE.getV t))|none=>none:=by
 rw [oldOf]
 cases oldOf tmE tm l with
 | none=>rfl
 | some tm=>show setT tm _ _=_;rw [setT_eq]
theorem tmI_eq (tmE tm0:Tr V) (res:List Rs) (us os:List Nat):tmI tmE tm0 res us os=match tmOf tm0 res us with|some tm=>oldOf tmE tm os|none=>none:=rfl
theorem finT_nil (tm0:Tr V):finT tm0 []=some tm0:=rfl
theorem finT_cons (tm0:Tr V) (i:Nat) (d:Option Nat) (v:V) (l:List Rs):finT tm0 (⟨i,d,v⟩::l)=match finT tm0 l with|some tm=>some (setV tm d v)|none=>none:=by
 rw [finT]
 cases finT tm0 l with
 | none=>rfl
 | some tm=>show setT tm _ _=_;rw [setT_eq]
def gsel (g:Option (Nat×Bool)) (tm:Tr V) (A B:Prop):Prop:=match gate g tm with|some true=>A|some false=>B|none=>False
def gsV (v:V) (b:Bool) (A B:Prop):Prop:=match v with|.c (.bool c)=>(bif c == b then A else B)|.tnil=>B|_=>False
theorem gsel_n (tm:Tr V) (A B:Prop):gsel none tm A B=A:=rfl
theorem gsel_s (t:Nat) (b:Bool) (tm:Tr V) (A B:Prop):gsel (some (t,b)) tm A B=gsV (tm.getV t) b A B:=by
 unfold gsel gsV gate
 dsimp only
 generalize tm.getV t=v
 rcases v with x|_|_|_|_|_|_ <;> try rfl
 cases x <;> try rfl
 next c=>cases c <;> cases b <;> rfl
theorem gsV_tt (A B:Prop):gsV (.c (.bool true)) true A B=A:=rfl
theorem gsV_tf (A B:Prop):gsV (.c (.bool true)) false A B=B:=rfl
theorem gsV_ft (A B:Prop):gsV (.c (.bool false)) true A B=B:=rfl
theorem gsV_ff (A B:Prop):gsV (.c (.bool false)) false A B=A:=rfl
theorem gsV_nil (b:Bool) (A B:Prop):gsV .tnil b A B=B:=rfl
theorem gsV_dec {p:Prop} [Decidable p] {A B:Prop} (h1:p→A) (h2 : ¬ p→B):gsV (.c (.bool (decide p))) true A B:=by
 by_cases h:p
 ·rw [decide_eq_true h];exact h1 h
 ·rw [decide_eq_false h];exact h2 h
theorem gsV_dec' {p:Prop} [Decidable p] {A B:Prop} (h1:p→B) (h2 : ¬ p→A):gsV (.c (.bool (decide p))) false A B:=by
 by_cases h:p
 ·rw [decide_eq_true h];exact h1 h
 ·rw [decide_eq_false h];exact h2 h
def wpQ (tmE tm0:Tr V) (qs:List DO) (σ:St) (res:List Rs) (pd:List Pend) (K:St→List Rs→List Pend→Prop):Prop :=
 match runQ tmE tm0 qs σ res pd with
 | some (σ,res,pd)=>K σ res pd
 | none=>False
theorem wpQ_nil (tmE tm0:Tr V) (σ:St) (res:List Rs) (pd:List Pend) (K:St→List Rs→List Pend→Prop):wpQ tmE tm0 [] σ res pd K=K σ res pd:=rfl
section
variable (E:Env) (pt:List (List Nat)) (tmE tm0:Tr V) (σ:St) (res:List Rs) (pd:List Pend)
theorem wpQ_q (i:Nat) (us os:List Nat) (d:Option Nat) (g:Option (Nat×Bool)) (op:AOp) (l:List DO) (K:St→List Rs→List Pend→Prop) (h:op.kind = .q) :
  wpQ tmE tm0 (⟨i,us,os,⟨d,g,op⟩⟩::l) σ res pd K=match tmI tmE tm0 res us os with
   | some tm=>gsel g tm (wpOp E op tm σ fun v _=>wpQ tmE tm0 l σ (⟨i,d,v⟩::res) (⟨i,⟨d,g,op⟩,tm,v,true,none⟩::pd) K) (wpQ tmE tm0 l σ (⟨i,d,.tnil⟩::res) (⟨i,⟨d,g,op⟩,tm,.tnil,false,none⟩::pd) K)
   | none=>False:=by
 unfold wpQ gsel
 rw [runQ]
 dsimp only
 cases tmI tmE tm0 res us os with
 | none=>rfl
 | some tm =>
  dsimp only
  have hc : ∀ g l,op≠.call g l:=fun g l e=>by rw [e] at h;cases h
  cases gate g tm with
  | none=>rfl
  | some b =>
   cases b with
   | true =>
    dsimp only
    rw [h]
    dsimp only
    rw [quiet_eq E tm σ _ h hc]
    unfold onV
    cases stepQ op tm σ <;> rfl
   | false =>
    dsimp only
    rw [h]
theorem wpQ_alloc (i:Nat) (us os:List Nat) (d:Option Nat) (g:Option (Nat×Bool)) (z:List B) (l:List DO) (K:St→List Rs→List Pend→Prop) :
  wpQ tmE tm0 (⟨i,us,os,⟨d,g,.alloc z⟩⟩::l) σ res pd K=match tmI tmE tm0 res us os with
   | some tm=>gsel g tm (wpQ tmE tm0 l ⟨hset σ.h σ.nxt ⟨z,none⟩,σ.nxt+1⟩ (⟨i,d,.c (.ptr σ.nxt 0)⟩::res) (⟨i,⟨d,g,.alloc z⟩,tm,.c (.ptr σ.nxt 0),true,some σ.nxt⟩::pd) K)
    (wpQ tmE tm0 l σ (⟨i,d,.tnil⟩::res) (⟨i,⟨d,g,.alloc z⟩,tm,.tnil,false,none⟩::pd) K)
   | none=>False:=by
 unfold wpQ gsel
 rw [runQ]
 dsimp only
 cases tmI tmE tm0 res us os with
 | none=>rfl
 | some tm =>
  dsimp only
  cases gate g tm with
  | none=>rfl
  | some b =>
   cases b with
   | true =>
    dsimp only [AOp.kind,stepN]
    rw [new_hset]
   | false=>rfl
theorem wpQ_box (i:Nat) (us os:List Nat) (d:Option Nat) (g:Option (Nat×Bool)) (x:O) (l:List DO) (K:St→List Rs→List Pend→Prop) :
  wpQ tmE tm0 (⟨i,us,os,⟨d,g,.box x⟩⟩::l) σ res pd K=match tmI tmE tm0 res us os with
   | some tm=>gsel g tm (match (x.ev tm).cells with
    | some z=>wpQ tmE tm0 l ⟨hset σ.h σ.nxt ⟨z,none⟩,σ.nxt+1⟩ (⟨i,d,.c (.ptr σ.nxt 0)⟩::res) (⟨i,⟨d,g,.box x⟩,tm,.c (.ptr σ.nxt 0),true,some σ.nxt⟩::pd) K
    | none=>False) (wpQ tmE tm0 l σ (⟨i,d,.tnil⟩::res) (⟨i,⟨d,g,.box x⟩,tm,.tnil,false,none⟩::pd) K)
   | none=>False:=by
 unfold wpQ gsel
 rw [runQ]
 dsimp only
 cases tmI tmE tm0 res us os with
 | none=>rfl
 | some tm =>
  dsimp only
  cases gate g tm with
  | none=>rfl
  | some b =>
   cases b with
   | true =>
    dsimp only [AOp.kind,stepN]
    cases (x.ev tm).cells with
    | none=>rfl
    | some z=>dsimp only;rw [new_hset]
   | false=>rfl
theorem wpQ_bsl (i:Nat) (us os:List Nat) (d:Option Nat) (g:Option (Nat×Bool)) (e n:Nat) (z:List B) (ps:List (Nat×Nat×O)) (l:List DO) (K:St→List Rs→List Pend→Prop) (hn:n*e≤16777216) (hn2:n≤16777216) :
  wpQ tmE tm0 (⟨i,us,os,⟨d,g,.bsl e n z ps⟩⟩::l) σ res pd K=match tmI tmE tm0 res us os with
   | some tm=>gsel g tm (match fillB (rep z n) (ps.map fun p=>(p.1,p.2.1,p.2.2.ev tm)) with
    | some c=>wpQ tmE tm0 l ⟨hset σ.h σ.nxt ⟨c,none⟩,σ.nxt+1⟩ (⟨i,d,.c (.sl σ.nxt 0 n (.ex n))⟩::res) (⟨i,⟨d,g,.bsl e n z ps⟩,tm,.c (.sl σ.nxt 0 n (.ex n)),true,some σ.nxt⟩::pd) K
    | none=>False) (wpQ tmE tm0 l σ (⟨i,d,.tnil⟩::res) (⟨i,⟨d,g,.bsl e n z ps⟩,tm,.tnil,false,none⟩::pd) K)
   | none=>False:=by
 unfold wpQ gsel
 rw [runQ]
 dsimp only
 cases tmI tmE tm0 res us os with
 | none=>rfl
 | some tm =>
  dsimp only
  cases gate g tm with
  | none=>rfl
  | some b =>
   cases b with
   | true =>
    dsimp only [AOp.kind,stepN]
    rw [ble_t hn,ble_t hn2]
    simp only [cond_true,Bool.and_self]
    cases fillB (rep z n) (ps.map fun p=>(p.1,p.2.1,p.2.2.ev tm)) with
    | none=>rfl
    | some c=>dsimp only;rw [new_hset]
   | false=>rfl
def agn (σ:St):List Pend→Prop
 | []=>True
 | p::l=>again σ p=true∧agn σ l
theorem agn_all (σ:St) : ∀ l:List Pend,(l.all (again σ)=true)=agn σ l
 | []=>by simp [agn]
 | p::l=>by rw [List.all_cons,Bool.and_eq_true,agn_all σ l];rfl
theorem agn_nil (σ:St):agn σ []=True:=rfl
theorem agn_cons (σ:St) (p:Pend) (l:List Pend):agn σ (p::l)=(again σ p=true∧agn σ l):=rfl
def fltP (l:List Nat):List Pend→List Pend
 | []=>[]
 | p::pd=>bif l.contains p.i then fltP l pd else p::fltP l pd
theorem flt_eq (l:List Nat) : ∀ pd:List Pend,pd.filter (fun p=>!(l.contains p.i))=fltP l pd
 | []=>rfl
 | p::pd=>by
  rw [List.filter_cons,fltP,flt_eq l pd]
  cases l.contains p.i <;> rfl
theorem wpD_fin (qs:List DO) (Q:Tr V→St→Prop):wpD E pt tmE tm0 (.fin qs) σ res pd Q=wpQ tmE tm0 qs σ res pd fun σ res pd=>agn σ pd∧(match finT tm0 res with|some tm=>Q tm σ|none=>False):=by
 unfold wpD wpQ
 cases runQ tmE tm0 qs σ res pd with
 | none=>rfl
 | some r=>dsimp only;rw [agn_all];rfl
theorem wpD_act (qs:List DO) (i:Nat) (us os:List Nat) (d:Option Nat) (g:Option (Nat×Bool)) (op:AOp) (r:Dr) (Q:Tr V→St→Prop) :
  wpD E pt tmE tm0 (.act qs ⟨i,us,os,⟨d,g,op⟩⟩ r) σ res pd Q=wpQ tmE tm0 qs σ res pd fun σ res pd=>agn σ pd∧(match tmI tmE tm0 res us os with
   | some tm=>wpG E ⟨d,g,op⟩ tm σ fun v σ'=>wpD E pt tmE tm0 r σ' (⟨i,d,v⟩::res) (fltP (pt.getD i []) pd) Q
   | none=>False):=by
 rw [wpD]
 unfold wpQ
 cases runQ tmE tm0 qs σ res pd with
 | none=>rfl
 | some r=>dsimp only;rw [agn_all,flt_eq];rfl
theorem eqB1_s (b:B):eqB1 b b=b.kn:=by
 cases b <;> simp [eqB1,B.kn]
 case int k n=>cases n <;> simp [eqI]
 case sl b o n c=>cases c <;> simp [eqC]
theorem eqBs_s : ∀ l:List B,eqBs l l=l.all B.kn
 | []=>rfl
 | b::l=>by
  rw [List.all_cons]
  unfold eqBs
  rw [eqB1_s b,eqBs_s l]
theorem eqV_agg (l:List B):eqV (.agg l) (.agg l)=l.all B.kn:=eqBs_s l
theorem eqV_c (b:B):eqV (.c b) (.c b)=b.kn:=eqB1_s b
theorem again_q (i:Nat) (d:Option Nat) (g9:Option (Nat×Bool)) (op:AOp) (tm:Tr V) (v:V) (h:op.kind = .q) (h2:op.looks=false):again σ ⟨i,⟨d,g9,op⟩,tm,v,true,none⟩=true:=by
 unfold again
 dsimp only [cond_true]
 rw [h,h2];rfl
theorem again_load (i:Nat) (d:Option Nat) (g9:Option (Nat×Bool)) (n:Nat) (g:Bool) (x:O) (tm:Tr V) (v:V):again σ ⟨i,⟨d,g9,.load n g x⟩,tm,v,true,none⟩=match (match x.ev tm with|.c (.ptr b o)=>ld σ.h b o n g|_=>none) with|some u=>eqV u v|none=>false:=by
 unfold again
 rfl
theorem again_alloc (i:Nat) (d:Option Nat) (g9:Option (Nat×Bool)) (z:List B) (tm:Tr V) (v:V) (b:Nat):again σ ⟨i,⟨d,g9,.alloc z⟩,tm,v,true,some b⟩=match σ.h b with|some ⟨c,none⟩=>eqBs c z|_=>false:=by
 unfold again
 rfl
theorem again_box (i:Nat) (d:Option Nat) (g9:Option (Nat×Bool)) (x:O) (tm:Tr V) (v:V) (b:Nat):again σ ⟨i,⟨d,g9,.box x⟩,tm,v,true,some b⟩=match (x.ev tm).cells with|some z=>(match σ.h b with|some ⟨c,none⟩=>eqBs c z|_=>false)|none=>false:=by
 unfold again
 dsimp only [cond_true,AOp.kind,stepN]
 cases (x.ev tm).cells <;> rfl
theorem again_bsl (i:Nat) (d:Option Nat) (g9:Option (Nat×Bool)) (e n:Nat) (z:List B) (ps:List (Nat×Nat×O)) (tm:Tr V) (v:V) (b:Nat) (hn:n*e≤16777216) (hn2:n≤16777216):again σ ⟨i,⟨d,g9,.bsl e n z ps⟩,tm,v,true,some b⟩=match fillB (rep z n) (ps.map fun p=>(p.1,p.2.1,p.2.2.ev tm)) with|some z=>(match σ.h b with|some ⟨c,none⟩=>eqBs c z|_=>false)|none=>false:=by
 unfold again
 dsimp only [cond_true,AOp.kind,stepN]
 rw [ble_t hn,ble_t hn2]
 simp only [cond_true,Bool.and_self]
 cases fillB (rep z n) (ps.map fun p=>(p.1,p.2.1,p.2.2.ev tm)) <;> rfl
end
theorem again_f (σ:St) (i:Nat) (o:AO) (tm:Tr V) (v:V) (nm:Option Nat):again σ ⟨i,o,tm,v,false,nm⟩=true:=rfl
section
def E0:Env:=⟨fun _=>none,fun _ _ _=>none⟩
variable (tmE tm0 tm:Tr V) (σ:St) (res:List Rs) (pd:List Pend) (i:Nat) (us os:List Nat) (d:Option Nat) (g9:Option (Nat×Bool)) (l:List DO) (K:St→List Rs→List Pend→Prop) (v:V)
def qR (g:Option (Nat×Bool)) (tmE tm0:Tr V) (res:List Rs) (us os:List Nat) (σ:St) (pd:List Pend) (i:Nat) (d:Option Nat) (op:AOp) (l:List DO) (K:St→List Rs→List Pend→Prop):Prop:=match tmI tmE tm0 res us os with
 | some tm=>gsel g tm (wpOp E0 op tm σ fun v _=>wpQ tmE tm0 l σ (⟨i,d,v⟩::res) (⟨i,⟨d,g,op⟩,tm,v,true,none⟩::pd) K) (wpQ tmE tm0 l σ (⟨i,d,.tnil⟩::res) (⟨i,⟨d,g,op⟩,tm,.tnil,false,none⟩::pd) K)
 | none=>False
theorem qR_eq (g:Option (Nat×Bool)) (tmE tm0:Tr V) (res:List Rs) (us os:List Nat) (σ:St) (pd:List Pend) (i:Nat) (d:Option Nat) (op:AOp) (l:List DO) (K:St→List Rs→List Pend→Prop):qR g tmE tm0 res us os σ pd i d op l K=match tmI tmE tm0 res us os with
 | some tm=>gsel g tm (wpOp E0 op tm σ fun v _=>wpQ tmE tm0 l σ (⟨i,d,v⟩::res) (⟨i,⟨d,g,op⟩,tm,v,true,none⟩::pd) K) (wpQ tmE tm0 l σ (⟨i,d,.tnil⟩::res) (⟨i,⟨d,g,op⟩,tm,.tnil,false,none⟩::pd) K)
 | none=>False:=rfl
theorem dq_mov (x:O):wpQ tmE tm0 (⟨i,us,os,⟨d,g9,.mov x⟩⟩::l) σ res pd K=qR g9 tmE tm0 res us os σ pd i d (.mov x) l K:=wpQ_q E0 _ _ _ _ _ _ _ _ _ _ _ _ _ rfl
theorem da_mov (x:O):again σ ⟨i,⟨d,g9,.mov x⟩,tm,v,true,none⟩=true:=again_q _ _ _ _ _ _ _ rfl rfl
theorem dq_pick (c a b:O):wpQ tmE tm0 (⟨i,us,os,⟨d,g9,.pick c a b⟩⟩::l) σ res pd K=qR g9 tmE tm0 res us os σ pd i d (.pick c a b) l K:=wpQ_q E0 _ _ _ _ _ _ _ _ _ _ _ _ _ rfl
theorem da_pick (c a b:O):again σ ⟨i,⟨d,g9,.pick c a b⟩,tm,v,true,none⟩=true:=again_q _ _ _ _ _ _ _ rfl rfl
theorem dq_load (n:Nat) (g:Bool) (x:O):wpQ tmE tm0 (⟨i,us,os,⟨d,g9,.load n g x⟩⟩::l) σ res pd K=qR g9 tmE tm0 res us os σ pd i d (.load n g x) l K:=wpQ_q E0 _ _ _ _ _ _ _ _ _ _ _ _ _ rfl
theorem dq_faddr (n:Nat) (x:O):wpQ tmE tm0 (⟨i,us,os,⟨d,g9,.faddr n x⟩⟩::l) σ res pd K=qR g9 tmE tm0 res us os σ pd i d (.faddr n x) l K:=wpQ_q E0 _ _ _ _ _ _ _ _ _ _ _ _ _ rfl
theorem da_faddr (n:Nat) (x:O):again σ ⟨i,⟨d,g9,.faddr n x⟩,tm,v,true,none⟩=true:=again_q _ _ _ _ _ _ _ rfl rfl
theorem dq_field (o n:Nat) (g:Bool) (x:O):wpQ tmE tm0 (⟨i,us,os,⟨d,g9,.field o n g x⟩⟩::l) σ res pd K=qR g9 tmE tm0 res us os σ pd i d (.field o n g x) l K:=wpQ_q E0 _ _ _ _ _ _ _ _ _ _ _ _ _ rfl
theorem da_field (o n:Nat) (g:Bool) (x:O):again σ ⟨i,⟨d,g9,.field o n g x⟩,tm,v,true,none⟩=true:=again_q _ _ _ _ _ _ _ rfl rfl
theorem dq_iaddr (e:Nat) (x j:O):wpQ tmE tm0 (⟨i,us,os,⟨d,g9,.iaddr e x j⟩⟩::l) σ res pd K=qR g9 tmE tm0 res us os σ pd i d (.iaddr e x j) l K:=wpQ_q E0 _ _ _ _ _ _ _ _ _ _ _ _ _ rfl
theorem da_iaddr (e:Nat) (x j:O):again σ ⟨i,⟨d,g9,.iaddr e x j⟩,tm,v,true,none⟩=true:=again_q _ _ _ _ _ _ _ rfl rfl
theorem dq_ext (n:Nat) (x:O):wpQ tmE tm0 (⟨i,us,os,⟨d,g9,.ext n x⟩⟩::l) σ res pd K=qR g9 tmE tm0 res us os σ pd i d (.ext n x) l K:=wpQ_q E0 _ _ _ _ _ _ _ _ _ _ _ _ _ rfl
theorem da_ext (n:Nat) (x:O):again σ ⟨i,⟨d,g9,.ext n x⟩,tm,v,true,none⟩=true:=again_q _ _ _ _ _ _ _ rfl rfl
theorem dq_bin (b:BinOp) (x y:O):wpQ tmE tm0 (⟨i,us,os,⟨d,g9,.bin b x y⟩⟩::l) σ res pd K=qR g9 tmE tm0 res us os σ pd i d (.bin b x y) l K:=wpQ_q E0 _ _ _ _ _ _ _ _ _ _ _ _ _ rfl
theorem da_bin (b:BinOp) (x y:O):again σ ⟨i,⟨d,g9,.bin b x y⟩,tm,v,true,none⟩=true:=again_q _ _ _ _ _ _ _ rfl rfl
theorem dq_eqb (p:Bool) (x y:O):wpQ tmE tm0 (⟨i,us,os,⟨d,g9,.eqb p x y⟩⟩::l) σ res pd K=qR g9 tmE tm0 res us os σ pd i d (.eqb p x y) l K:=wpQ_q E0 _ _ _ _ _ _ _ _ _ _ _ _ _ rfl
theorem da_eqb (p:Bool) (x y:O):again σ ⟨i,⟨d,g9,.eqb p x y⟩,tm,v,true,none⟩=true:=again_q _ _ _ _ _ _ _ rfl rfl
theorem dq_eqagg (p:Bool) (x y:O):wpQ tmE tm0 (⟨i,us,os,⟨d,g9,.eqagg p x y⟩⟩::l) σ res pd K=qR g9 tmE tm0 res us os σ pd i d (.eqagg p x y) l K:=wpQ_q E0 _ _ _ _ _ _ _ _ _ _ _ _ _ rfl
theorem da_eqagg (p:Bool) (x y:O):again σ ⟨i,⟨d,g9,.eqagg p x y⟩,tm,v,true,none⟩=true:=again_q _ _ _ _ _ _ _ rfl rfl
theorem dq_nil (k:Nat) (p:Bool) (x:O):wpQ tmE tm0 (⟨i,us,os,⟨d,g9,.nil k p x⟩⟩::l) σ res pd K=qR g9 tmE tm0 res us os σ pd i d (.nil k p x) l K:=wpQ_q E0 _ _ _ _ _ _ _ _ _ _ _ _ _ rfl
theorem da_nil (k:Nat) (p:Bool) (x:O):again σ ⟨i,⟨d,g9,.nil k p x⟩,tm,v,true,none⟩=true:=again_q _ _ _ _ _ _ _ rfl rfl
theorem dq_not (x:O):wpQ tmE tm0 (⟨i,us,os,⟨d,g9,.not x⟩⟩::l) σ res pd K=qR g9 tmE tm0 res us os σ pd i d (.not x) l K:=wpQ_q E0 _ _ _ _ _ _ _ _ _ _ _ _ _ rfl
theorem da_not (x:O):again σ ⟨i,⟨d,g9,.not x⟩,tm,v,true,none⟩=true:=again_q _ _ _ _ _ _ _ rfl rfl
theorem dq_conv (k:IntKind) (x:O):wpQ tmE tm0 (⟨i,us,os,⟨d,g9,.conv k x⟩⟩::l) σ res pd K=qR g9 tmE tm0 res us os σ pd i d (.conv k x) l K:=wpQ_q E0 _ _ _ _ _ _ _ _ _ _ _ _ _ rfl
theorem da_conv (k:IntKind) (x:O):again σ ⟨i,⟨d,g9,.conv k x⟩,tm,v,true,none⟩=true:=again_q _ _ _ _ _ _ _ rfl rfl
theorem dq_build (z:List B) (ps:List (Nat×Nat×O)):wpQ tmE tm0 (⟨i,us,os,⟨d,g9,.build z ps⟩⟩::l) σ res pd K=qR g9 tmE tm0 res us os σ pd i d (.build z ps) l K:=wpQ_q E0 _ _ _ _ _ _ _ _ _ _ _ _ _ rfl
theorem da_build (z:List B) (ps:List (Nat×Nat×O)):again σ ⟨i,⟨d,g9,.build z ps⟩,tm,v,true,none⟩=true:=again_q _ _ _ _ _ _ _ rfl rfl
theorem dq_mkfn (f:Nat) (cs:List O):wpQ tmE tm0 (⟨i,us,os,⟨d,g9,.mkfn f cs⟩⟩::l) σ res pd K=qR g9 tmE tm0 res us os σ pd i d (.mkfn f cs) l K:=wpQ_q E0 _ _ _ _ _ _ _ _ _ _ _ _ _ rfl
theorem da_mkfn (f:Nat) (cs:List O):again σ ⟨i,⟨d,g9,.mkfn f cs⟩,tm,v,true,none⟩=true:=again_q _ _ _ _ _ _ _ rfl rfl
theorem dq_len (x:O):wpQ tmE tm0 (⟨i,us,os,⟨d,g9,.len x⟩⟩::l) σ res pd K=qR g9 tmE tm0 res us os σ pd i d (.len x) l K:=wpQ_q E0 _ _ _ _ _ _ _ _ _ _ _ _ _ rfl
theorem da_len (x:O):again σ ⟨i,⟨d,g9,.len x⟩,tm,v,true,none⟩=true:=again_q _ _ _ _ _ _ _ rfl rfl
theorem dq_slice (e:Nat) (x:O) (lo hi mx:Option O):wpQ tmE tm0 (⟨i,us,os,⟨d,g9,.slice e x lo hi mx⟩⟩::l) σ res pd K=qR g9 tmE tm0 res us os σ pd i d (.slice e x lo hi mx) l K:=wpQ_q E0 _ _ _ _ _ _ _ _ _ _ _ _ _ rfl
theorem da_slice (e:Nat) (x:O) (lo hi mx:Option O):again σ ⟨i,⟨d,g9,.slice e x lo hi mx⟩,tm,v,true,none⟩=true:=again_q _ _ _ _ _ _ _ rfl rfl
theorem dq_nchk (x:O):wpQ tmE tm0 (⟨i,us,os,⟨d,g9,.nchk x⟩⟩::l) σ res pd K=qR g9 tmE tm0 res us os σ pd i d (.nchk x) l K:=wpQ_q E0 _ _ _ _ _ _ _ _ _ _ _ _ _ rfl
theorem da_nchk (x:O):again σ ⟨i,⟨d,g9,.nchk x⟩,tm,v,true,none⟩=true:=again_q _ _ _ _ _ _ _ rfl rfl
theorem dq_min2 (x y:O):wpQ tmE tm0 (⟨i,us,os,⟨d,g9,.min2 x y⟩⟩::l) σ res pd K=qR g9 tmE tm0 res us os σ pd i d (.min2 x y) l K:=wpQ_q E0 _ _ _ _ _ _ _ _ _ _ _ _ _ rfl
theorem da_min2 (x y:O):again σ ⟨i,⟨d,g9,.min2 x y⟩,tm,v,true,none⟩=true:=again_q _ _ _ _ _ _ _ rfl rfl
end
theorem run_dr {E:Env} {tm:Tr V} {σ:St} {Q:AX→Tr V→St→Prop} {d:Dr} {pt:List (List Nat)} {ds:List Nat} (h:wpD E pt tm (ersV tm ds) d σ [] [] fun tm' σ'=>Q .normal tm' σ'):RunX E (.drawn d pt ds) tm σ Q :=
 run_drawn _ (eraseT_eq tm ds) h
section
variable {E:Env}
theorem wpOp_of {n:Nat} {op:AOp} {tm:Tr V} {σ σ' : St} {v:V} {K:V→St→Prop} (h:stepO (callF E n) op tm σ=some (v,σ')) (hk:K v σ'):wpOp E op tm σ K:=by
 unfold wpOp
 split
 ·next g args =>
  unfold stepO at h
  simp only [AOp.kind] at h
  split at h
  ·next f a e =>
   unfold stepC at e
   cases hg:g.ev tm with
   | fn f' caps =>
    dsimp only at e
    rw [hg] at e
    obtain ⟨rfl,rfl⟩:=Prod.mk.inj (Option.some.inj e)
    exact ⟨n,v,σ',h,hk⟩
   | _=>dsimp only at e;rw [hg] at e;cases e
  ·cases h
 ·next hne =>
  have e:stepO (fun _ _ _=>none) op tm σ=stepO (callF E n) op tm σ:=by
   unfold stepO
   cases hk2:op.kind with
   | c=>cases op <;> simp only [AOp.kind,reduceCtorEq] at hk2;exact (hne _ _ rfl).elim
   | _=>rfl
  rw [e,h]
  exact hk
theorem wpG_of {n:Nat} {o:AO} {tm:Tr V} {σ σ' : St} {v:V} {K:V→St→Prop} (h:stepG (callF E n) o tm σ=some (v,σ')) (hk:K v σ'):wpG E o tm σ K:=by
 unfold wpG
 unfold stepG at h
 split at h
 ·next e=>rw [e];exact wpOp_of h hk
 ·next e=>rw [e];cases h;exact hk
 ·cases h
theorem wpOps_of {n:Nat} : ∀ {l:List AO} {tm tm' : Tr V} {σ σ' : St} {Q:Tr V→St→Prop},runOps (callF E n) l tm σ=some (tm',σ')→Q tm' σ'→wpOps E l tm σ Q
 | [],_,_,_,_,_,h,hq=>by cases h;exact hq
 | o::l,tm,tm',σ,σ',Q,h,hq=>by
  unfold runOps at h
  split at h
  ·next v σ1 e =>
   rw [setT_eq] at h
   exact wpG_of e (wpOps_of h hq)
  ·cases h
theorem wpD_of {n:Nat} {pt:List (List Nat)} {tmE tm0:Tr V} : ∀ {d:Dr} {σ σ' : St} {res:List Rs} {pd:List Pend} {tm' : Tr V} {Q:Tr V→St→Prop},runD (callF E n) pt tmE tm0 d σ res pd=some (tm',σ')→Q tm' σ'→wpD E pt tmE tm0 d σ res pd Q
 | .fin qs,σ,σ',res,pd,tm',Q,h,hq=>by
  unfold runD at h
  unfold wpD
  split at h
  ·next σ1 res1 pd1 e =>
   rw [e]
   dsimp only
   cases hb:pd1.all (again σ1) with
   | false=>rw [hb] at h;cases h
   | true =>
    rw [hb] at h
    simp only [cond_true] at h
    refine ⟨rfl,?_⟩
    split at h
    ·next tm2 e2=>rw [e2];cases h;exact hq
    ·cases h
  ·cases h
 | .act qs x r,σ,σ',res,pd,tm',Q,h,hq=>by
  unfold runD at h
  unfold wpD
  split at h
  ·next σ1 res1 pd1 e =>
   rw [e]
   dsimp only
   cases hb:pd1.all (again σ1) with
   | false=>rw [hb] at h;cases h
   | true =>
    rw [hb] at h
    simp only [cond_true] at h
    refine ⟨rfl,?_⟩
    split at h
    ·next tm2 e2 =>
     rw [e2]
     dsimp only
     split at h
     ·next v σ2 e3=>exact wpG_of e3 (wpD_of h hq)
     ·cases h
    ·cases h
  ·cases h
end
section
variable (E:Env) (tm:Tr V) (σ:St) (Q:AX→Tr V→St→Prop)
theorem ops_eq (l:List AO):RunX E (.ops l) tm σ Q=wpOps E l tm σ fun tm' σ'=>Q .normal tm' σ':=by
 refine propext ⟨?_,run_ops⟩
 rintro ⟨n,e,tm',σ',h,hq⟩
 cases n with
 | zero=>simp only [exec,reduceCtorEq] at h
 | succ n =>
  simp only [exec,xRes] at h
  split at h
  ·next e2=>cases h;exact wpOps_of e2 hq
  ·cases h
theorem dr_eq (d:Dr) (pt:List (List Nat)) (ds:List Nat):RunX E (.drawn d pt ds) tm σ Q=wpD E pt tm (ersV tm ds) d σ [] [] fun tm' σ'=>Q .normal tm' σ':=by
 refine propext ⟨?_,run_dr⟩
 rintro ⟨n,e,tm',σ',h,hq⟩
 cases n with
 | zero=>simp only [exec,reduceCtorEq] at h
 | succ n =>
  simp only [exec,xDr,xRes,eraseT_eq] at h
  split at h
  ·next e2=>cases h;exact wpD_of e2 hq
  ·cases h
theorem seq_eq (a b:AC):RunX E (.seq a b) tm σ Q=RunX E a tm σ (nxtX E b Q):=by
 refine propext ⟨?_,run_seq⟩
 rintro ⟨n,e,tm',σ',h,hq⟩
 cases n with
 | zero=>simp only [exec,reduceCtorEq] at h
 | succ n =>
  rw [exec] at h
  cases hx:exec E n a tm σ with
  | none=>rw [hx] at h;cases h
  | some q =>
   rw [hx] at h
   obtain ⟨e1,tm1,σ1⟩:=q
   refine ⟨n,e1,tm1,σ1,hx,?_⟩
   cases e1 with
   | normal=>exact ⟨n,e,tm',σ',h,hq⟩
   | exit i=>cases h;exact hq
   | ret=>cases h;exact hq
theorem block_eq (i:Nat) (a:AC):RunX E (.block i a) tm σ Q=RunX E a tm σ (outX i Q):=by
 refine propext ⟨?_,run_block⟩
 rintro ⟨n,e,tm',σ',h,hq⟩
 cases n with
 | zero=>simp only [exec,reduceCtorEq] at h
 | succ n =>
  rw [exec] at h
  cases hx:exec E n a tm σ with
  | none=>rw [hx] at h;cases h
  | some q =>
   rw [hx] at h
   obtain ⟨e1,tm1,σ1⟩:=q
   refine ⟨n,e1,tm1,σ1,hx,?_⟩
   cases e1 with
   | normal=>cases h;exact hq
   | exit j=>cases h;exact hq
   | ret=>cases h;exact hq
theorem skip_eq:RunX E .skip tm σ Q=Q .normal tm σ:=by
 refine propext ⟨?_,run_skip⟩
 rintro ⟨n,e,tm',σ',h,hq⟩
 cases n with
 | zero=>simp only [exec,reduceCtorEq] at h
 | succ n=>rw [exec] at h;cases h;exact hq
theorem exit_eq (i:Nat):RunX E (.exit i) tm σ Q=Q (.exit i) tm σ:=by
 refine propext ⟨?_,run_exit⟩
 rintro ⟨n,e,tm',σ',h,hq⟩
 cases n with
 | zero=>simp only [exec,reduceCtorEq] at h
 | succ n=>rw [exec] at h;cases h;exact hq
theorem ret_eq:RunX E .ret tm σ Q=Q .ret tm σ:=by
 refine propext ⟨?_,run_ret⟩
 rintro ⟨n,e,tm',σ',h,hq⟩
 cases n with
 | zero=>simp only [exec,reduceCtorEq] at h
 | succ n=>rw [exec] at h;cases h;exact hq
def ifV (v:V) (P:Bool→Prop):Prop:=match v with|.c (.bool t)=>P t|_=>False
theorem cond_eq (x:O) (a b:AC):RunX E (.cond x a b) tm σ Q=ifV (x.ev tm) fun t=>RunX E (bif t then a else b) tm σ Q:=by
 refine propext ⟨?_,fun h=>?_⟩
 ·rintro ⟨n,e,tm',σ',h,hq⟩
  cases n with
  | zero=>simp only [exec,reduceCtorEq] at h
  | succ n =>
   simp only [exec,xCond] at h
   split at h
   ·next t e=>rw [e];exact ⟨n,_,_,_,h,hq⟩
   ·cases h
 ·unfold ifV at h
  split at h
  ·next t e=>exact run_cond e h
  ·exact h.elim
theorem run_bt (a b:AC):RunX E (bif true then a else b) tm σ Q=RunX E a tm σ Q:=rfl
theorem run_bf (a b:AC):RunX E (bif false then a else b) tm σ Q=RunX E b tm σ Q:=rfl
theorem run_bnt (a b:AC):RunX E (bif !true then a else b) tm σ Q=RunX E b tm σ Q:=rfl
theorem run_bnf (a b:AC):RunX E (bif !false then a else b) tm σ Q=RunX E a tm σ Q:=rfl
theorem run_body (n:Nat) (b:AC) (r:List (Nat×Option (Nat×Bool))):RunX E (AF.body ⟨n,b,r⟩) tm σ Q=RunX E b tm σ Q:=rfl
theorem ifV_true (P:Bool→Prop):ifV (.c (.bool true)) P=P true:=rfl
theorem ifV_false (P:Bool→Prop):ifV (.c (.bool false)) P=P false:=rfl
theorem ifV_not (b:Bool) (P:Bool→Prop):ifV (.c (.bool (!b))) P=ifV (.c (.bool b)) fun t=>P (!t):=rfl
theorem ifV_dec {p:Prop} [Decidable p] {P:Bool→Prop} (h1:p→P true) (h2 : ¬ p→P false):ifV (.c (.bool (decide p))) P:=by
 show P (decide p)
 by_cases h:p
 ·rw [decide_eq_true h];exact h1 h
 ·rw [decide_eq_false h];exact h2 h
def tick:Prop:=∀ n:Nat,n=n
theorem tick_true:tick=True:=propext ⟨fun _=>trivial,fun _ _=>rfl⟩
@[congr] theorem ifV_congr {z:Prop} {v v' : V} {P:Bool→Prop} (hz:tick=z) (h:v=v'):ifV v P=ifV v' P:=by rw [h]
@[congr] theorem onV_congr {z:Prop} {v v' : Option V} {P:V→Prop} (hz:tick=z) (h:v=v'):onV v P=onV v' P:=by rw [h]
@[congr] theorem RunX_congr {z:Prop} {c:AC} {tm tm' : Tr V} {σ σ' : St} {Q:AX→Tr V→St→Prop} (hz:tick=z) (h:tm=tm') (h2:σ=σ'):RunX E c tm σ Q=RunX E c tm' σ' Q:=by rw [h,h2]
@[congr] theorem wpOps_congr {z:Prop} {c:List AO} {tm tm' : Tr V} {σ σ' : St} {Q:Tr V→St→Prop} (hz:tick=z) (h:tm=tm') (h2:σ=σ'):wpOps E c tm σ Q=wpOps E c tm' σ' Q:=by rw [h,h2]
@[congr] theorem wpG_congr {z:Prop} {c:AO} {tm tm' : Tr V} {σ σ' : St} {Q:V→St→Prop} (hz:tick=z) (h:tm=tm') (h2:σ=σ'):wpG E c tm σ Q=wpG E c tm' σ' Q:=by rw [h,h2]
@[congr] theorem wpOp_congr {z:Prop} {c:AOp} {tm tm' : Tr V} {σ σ' : St} {Q:V→St→Prop} (hz:tick=z) (h:tm=tm') (h2:σ=σ'):wpOp E c tm σ Q=wpOp E c tm' σ' Q:=by rw [h,h2]
@[congr] theorem CallX_congr {z:Prop} {f:Nat} {a a' : List V} {σ σ' : St} {Q:V→St→Prop} (hz:tick=z) (h:a=a') (h2:σ=σ'):CallX E f a σ Q=CallX E f a' σ' Q:=by rw [h,h2]
@[congr] theorem wpQ_congr {z:Prop} {tmE tm0:Tr V} {qs:List DO} {σ σ' : St} {res res' : List Rs} {pd pd' : List Pend} {K:St→List Rs→List Pend→Prop} (hz:tick=z) (h2:σ=σ') (h3:res=res') (h4:pd=pd'):wpQ tmE tm0 qs σ res pd K=wpQ tmE tm0 qs σ' res' pd' K:=by rw [h2,h3,h4]
@[congr] theorem wpD_congr {z:Prop} {pt:List (List Nat)} {tmE tm0:Tr V} {d:Dr} {σ σ' : St} {res res' : List Rs} {pd pd' : List Pend} {K:Tr V→St→Prop} (hz:tick=z) (h2:σ=σ') (h3:res=res') (h4:pd=pd'):wpD E pt tmE tm0 d σ res pd K=wpD E pt tmE tm0 d σ' res' pd' K:=by rw [h2,h3,h4]
@[congr] theorem agn_congr {z:Prop} {σ σ' : St} {pd pd' : List Pend} (hz:tick=z) (h:σ=σ') (h2:pd=pd'):agn σ pd=agn σ' pd':=by rw [h,h2]
@[congr] theorem Pend_congr {z:Prop} {i i' : Nat} {o:AO} {tm:Tr V} {v:V} {g:Bool} {nm:Option Nat} (hz:tick=z) (h:i=i'):Pend.mk i o tm v g nm=Pend.mk i' o tm v g nm:=by rw [h]
@[congr] theorem again_congr {z:Prop} {σ σ' : St} {p:Pend} (hz:tick=z) (h:σ=σ'):again σ p=again σ' p:=by rw [h]
@[congr] theorem tmI_congr {z:Prop} {tmE tm0:Tr V} {res:List Rs} {us us' os:List Nat} (hz:tick=z) (h:us=us'):tmI tmE tm0 res us os=tmI tmE tm0 res us' os:=by rw [h]
@[congr] theorem tmOf_congr {z:Prop} {tm0:Tr V} {res:List Rs} {us us' : List Nat} (hz:tick=z) (h:us=us'):tmOf tm0 res us=tmOf tm0 res us':=by rw [h]
@[congr] theorem fnd_congr {z:Prop} {res:List Rs} {u u' : Nat} (hz:tick=z) (h:u=u'):fnd res u=fnd res u':=by rw [h]
@[congr] theorem oldOf_congr {z:Prop} {tmE tm:Tr V} {os os' : List Nat} (hz:tick=z) (h:os=os'):oldOf tmE tm os=oldOf tmE tm os':=by rw [h]
@[congr] theorem gsel_congr {z:Prop} {g:Option (Nat×Bool)} {tm:Tr V} {A B:Prop} (hz:tick=z):gsel g tm A B=gsel g tm A B:=rfl
@[congr] theorem gsV_congr {z:Prop} {v v' : V} {b:Bool} {A B:Prop} (hz:tick=z) (h:v=v'):gsV v b A B=gsV v' b A B:=by rw [h]
@[congr] theorem qR_congr {z:Prop} {g:Option (Nat×Bool)} {tmE tm0:Tr V} {res:List Rs} {us os:List Nat} {σ:St} {pd:List Pend} {i:Nat} {d:Option Nat} {op:AOp} {l:List DO} {K:St→List Rs→List Pend→Prop} (hz:tick=z):qR g tmE tm0 res us os σ pd i d op l K=qR g tmE tm0 res us os σ pd i d op l K:=rfl
theorem wpG_sel (E:Env) (d:Option Nat) (g:Option (Nat×Bool)) (op:AOp) (tm:Tr V) (σ:St) (K:V→St→Prop):wpG E ⟨d,g,op⟩ tm σ K=gsel g tm (wpOp E op tm σ K) (K .tnil σ):=rfl
theorem mov_on (x:O) (K:V→St→Prop):wpOp E (.mov x) tm σ K=onV (some (x.ev tm)) fun v=>K v σ:=rfl
theorem nxtX_n (b:AC):nxtX E b Q .normal tm σ=RunX E b tm σ Q:=rfl
theorem nxtX_e (b:AC) (i:Nat):nxtX E b Q (.exit i) tm σ=Q (.exit i) tm σ:=rfl
theorem nxtX_r (b:AC):nxtX E b Q .ret tm σ=Q .ret tm σ:=rfl
theorem outX_n (i:Nat):outX i Q .normal tm σ=Q .normal tm σ:=rfl
theorem outX_e (i j:Nat):outX i Q (.exit j) tm σ=Q (bif Nat.beq j i then .normal else .exit j) tm σ:=rfl
theorem outX_r (i:Nat):outX i Q .ret tm σ=Q .ret tm σ:=rfl
variable (I:Nat→Tr V→St→Prop) (m:Nat) (res:List (Nat×Option (Nat×Bool))) (K:V→St→Prop)
theorem agnX_n:agnX I m Q .normal tm σ = ∃ m',m' < m∧I m' tm σ:=rfl
theorem agnX_e (i:Nat):agnX I m Q (.exit i) tm σ=Q (.exit i) tm σ:=rfl
theorem agnX_r:agnX I m Q .ret tm σ=Q .ret tm σ:=rfl
theorem endX_r:endX res K .ret tm σ=onV (result tm σ res) fun v=>K v σ:=by
 unfold endX onV
 cases hr:result tm σ res <;> simp [hr]
end
theorem get_same (tm:Tr V) (d:Nat) (v:V):Tr.get (setV tm (some d) v) d=some v:=by unfold setV;dsimp only;rw [Tr.get_set,if_pos rfl]
theorem getRes_nil (tm:Tr V) (σ:St):getRes tm σ []=some .tnil:=rfl
theorem getRes_n (tm:Tr V) (σ:St) (t:Nat) (r:List (Nat×Option (Nat×Bool))):getRes tm σ ((t,none)::r)=match tm.get t,getRes tm σ r with|some v,some w=>some (.tcons v w)|_,_=>none:=rfl
theorem getRes_l (tm:Tr V) (σ:St) (t n:Nat) (g:Bool) (r:List (Nat×Option (Nat×Bool))):getRes tm σ ((t,some (n,g))::r)=match (match tm.getV t with|.c (.ptr b o)=>ld σ.h b o n g|_=>none),getRes tm σ r with|some v,some w=>some (.tcons v w)|_,_=>none:=rfl
theorem Fr.new1 {σ:St} {h:Tr Bk} {n:Nat} {k:Bk} (hf:Fr σ ⟨h,n⟩):Fr σ ⟨hset h n k,n+1⟩:=Fr.new hf k
theorem Fr.set1 {σ:St} {h:Tr Bk} {n b:Nat} {k:Bk} (hf:Fr σ ⟨h,n⟩) (h1:σ.nxt≤b) (h2:b<n):Fr σ ⟨hset h b k,n⟩:=Fr.set hf h1 h2 k
theorem ld_blk {h:Tr Bk} {b:Nat} {k:Bk} (e:h b=some k) (o n:Nat) (g:Bool):ld h b o n g=bif k.rd then rdC k.cells o n g else none:=by unfold ld;rw [e]
theorem sto_blk {h:Tr Bk} {b:Nat} {k:Bk} (e:h b=some k) (o:Nat) (vs:List B):sto h b o vs=match bif k.pl then wrC k.cells o vs else none with|some l=>some (hset h b ⟨l,k.opn⟩)|none=>none:=by unfold sto;rw [e];rfl
def plo (o:Option (Nat×Nat)):Bool:=match o with|some (0,_)=>false|_=>true
def rdo (o:Option (Nat×Nat)):Bool:=match o with|some (0,t)=>Nat.beq t 1|_=>true
theorem pl_plo (k:Bk):k.pl=plo k.opn:=rfl
theorem rd_rdo (k:Bk):k.rd=rdo k.opn:=rfl
theorem plo_none:plo none=true:=rfl
theorem rdo_none:rdo none=true:=rfl
theorem plo_s (e t:Nat) (h:e≠0):plo (some (e,t))=true:=by cases e with|zero=>exact (h rfl).elim|succ e=>rfl
theorem rdo_s (e t:Nat) (h:e≠0):rdo (some (e,t))=true:=by cases e with|zero=>exact (h rfl).elim|succ e=>rfl
theorem rdo_z:rdo (some (0,1))=true:=rfl
theorem kn_int (k:IntKind) (n:Int):B.kn (.int k n)=true:=rfl
theorem kn_bool (b:Bool):B.kn (.bool b)=true:=rfl
theorem kn_str (s:ByteArray):B.kn (.str s)=true:=rfl
theorem kn_ptr (b o:Nat):B.kn (.ptr b o)=true:=rfl
theorem kn_nilp:B.kn .nilp=true:=rfl
theorem kn_sl (b o n:Nat) (c:Cap):B.kn (.sl b o n c)=true:=rfl
theorem kn_nils:B.kn .nils=true:=rfl
theorem kn_mp (b:Nat):B.kn (.mp b)=true:=rfl
theorem HL.kn {h:Tr Bk} {e:Nat} {v:B} {n:Nat} {G:Nat→List B} (hl:HL h e v n G):v.kn=true:=by
 rcases hl with ⟨-,rfl⟩|⟨b,o,c,rfl,-⟩ <;> rfl
theorem rdC_t (x:B) (l:List B) (o n:Nat):rdC (x::l) o n true=bif Nat.beq (((x::l).drop o).take n).length n && (((x::l).drop o).take n).all B.kn then some (.agg (((x::l).drop o).take n)) else none:=rfl
theorem rdC_f (x:B) (l:List B) (o n:Nat):rdC (x::l) o n false=match (x::l).drop o with|x::_=>bif x.kn then some (.c x) else none|[]=>none:=rfl
theorem wrC_z (x:B) (l vs:List B):wrC (x::l) 0 vs=bif Nat.ble vs.length (x::l).length then some (vs ++ (x::l).drop vs.length) else none:=by rw [wrC]
theorem wrC_s (x:B) (l:List B) (o:Nat) (vs:List B):wrC (x::l) (o+1) vs=match wrC l o vs with|some r=>some (x::r)|none=>none:=by rw [wrC];rfl
theorem eq_ofNat (a b:Nat):(Int.ofNat a=Int.ofNat b)=(a=b):=propext ⟨Int.ofNat.inj,fun e=>by rw [e]⟩
theorem dec_T [h:Decidable True] : @decide True h=true:=by simp
theorem dec_F [h:Decidable False] : @decide False h=false:=by simp
attribute [go_sem] tick_true run_bnt run_bnf run_bt run_bf run_body wpOps_nil wpOps_cons onV_some o_pick o_load o_faddr o_iaddr iaV_sl o_ext qext_V extV_0 extV_1 extV_2 o_bin b_lss b_gtr b_leq b_geq b_eql b_neq b_seql b_sneq b_add b_sub o_nil nilV o_not o_build fillB evBs o_len lenV_sl lenV_nils o_nchk o_alloc o_box o_mksl asN rep o_bsl o_store o_call ev_t ev_k getV_same getV_ne setV_none getV_ini0 getV_ini1 getV_ini2 getV_ini3 getV_ini4 getV_ini5 getV_ini6 getV_ini7 V.cells ld_same ld_ne sto_same sto_ne hset_get bc_t bc_f List.all_cons List.all_nil Bool.and_true Bool.true_and List.drop_succ_cons List.drop_zero List.take_succ_cons List.take_zero List.length_cons List.length_nil Nat.reduceAdd Nat.zero_add Nat.add_zero beq_s beq_n ble_t blt_t hset_ne List.append_nil List.nil_append List.cons_append List.map_cons List.map_nil result qload_ld lt_ofNat wpD_fin wpD_act wpQ_nil dq_mov dq_pick dq_load dq_faddr dq_field dq_iaddr dq_ext dq_bin dq_eqb dq_eqagg dq_nil dq_not dq_conv dq_build dq_mkfn dq_len dq_slice dq_nchk dq_min2 wpQ_alloc wpQ_box wpQ_bsl tmI_eq tmOf_nil tmOf_cons tmO_some fnd_hit fnd_miss oldOf_nil oldOf_cons finT_nil finT_cons getV_ers agn_nil agn_cons da_mov da_pick da_faddr da_field da_iaddr da_ext da_bin da_eqb da_eqagg da_nil da_not da_conv da_build da_mkfn da_len da_slice da_nchk da_min2 again_load again_alloc again_box again_bsl eqV_agg eqV_c eqBs_s fltP List.contains_cons List.contains_nil Nat.reduceBEq Bool.or_false Bool.or_true Bool.false_or Bool.true_or cond_true cond_false List.getD_cons_zero List.getD_cons_succ true_and and_true wpG_sel gsel_n gsel_s gsV_tt gsV_tf gsV_ft gsV_ff gsV_nil qR_eq again_f mov_on ops_eq dr_eq seq_eq block_eq skip_eq exit_eq ret_eq cond_eq ifV_true ifV_false ifV_not nxtX_n nxtX_e nxtX_r outX_n outX_e outX_r agnX_n agnX_e agnX_r endX_r kn_int kn_bool kn_str kn_ptr kn_nilp kn_sl kn_nils kn_mp rdC_t rdC_f wrC_z wrC_s eq_ofNat dec_T dec_F pl_plo rd_rdo plo_none rdo_none plo_s rdo_s rdo_z get_same getRes_nil getRes_n getRes_l x_Subtract x_Max x_rMinus x_rPositive x_rFix x_lWhole x_lAmount xr_Add xr_Sign xr_rSign xr_rFix
/-! ### Blocks of n elements -/
def celR:Nat→(Nat→List B)→List B
 | 0,_=>[]
 | n+1,G=>G 0 ++ celR n fun i=>G (i+1)
theorem cel_drop {e:Nat} : ∀ {n:Nat} {G:Nat→List B} {i:Nat},(∀ j,(G j).length=e)→i<n→∃ r,(celR n G).drop (i*e)=G i ++ r
 | 0,_,_,_,h=>by omega
 | n+1,G,0,_,_=>⟨celR n fun i=>G (i+1),by rw [Nat.zero_mul];rfl⟩
 | n+1,G,i+1,hG,h=>by
  obtain ⟨r,hr⟩:=cel_drop (G:=fun i=>G (i+1)) (i:=i) (fun j=>hG (j+1)) (by omega:i<n)
  refine ⟨r,?_⟩
  show (G 0 ++ celR n fun i=>G (i+1)).drop _=_
  rw [Nat.succ_mul,Nat.add_comm,← hG 0,List.drop_length_add_append,hG 0]
  exact hr
theorem rd_cel {e n i k m:Nat} {G:Nat→List B} (g:Bool) (hG : ∀ j,(G j).length=e) (h:i<n) (hk:k+m≤e) (hm:0<m):rdC (celR n G) (i*e+k) m g=rdC (G i) k m g:=by
 obtain ⟨r,hr⟩:=cel_drop hG h
 have hd:(celR n G).drop (i*e+k)=(G i).drop k ++ r:=by
  rw [← List.drop_drop,hr,List.drop_append_of_le_length (by rw [hG];omega)]
 have hl:((G i).drop k).length=e - k:=by rw [List.length_drop,hG]
 unfold rdC
 cases g with
 | true =>
  dsimp only
  rw [hd,List.take_append_of_le_length (by omega)]
 | false =>
  dsimp only
  rw [hd]
  cases hx:(G i).drop k with
  | nil=>rw [hx] at hl;simp at hl;omega
  | cons x l=>rfl
theorem wr_app : ∀ (p:List B) (l:List B) (o:Nat) (vs:List B),wrC (p ++ l) (p.length+o) vs=match wrC l o vs with|some r=>some (p ++ r)|none=>none
 | [],l,o,vs=>by
  rw [List.nil_append,List.length_nil,Nat.zero_add]
  cases wrC l o vs <;> rfl
 | x::p,l,o,vs=>by
  rw [List.cons_append,List.length_cons,show p.length+1+o=(p.length+o)+1 by omega,wrC,wr_app p l o vs]
  cases wrC l o vs <;> rfl
theorem wr_left : ∀ (p:List B) (l:List B) (o:Nat) (vs:List B),o+vs.length≤p.length→wrC (p ++ l) o vs=match wrC p o vs with|some r=>some (r ++ l)|none=>none
 | p,l,0,vs,h=>by
  unfold wrC
  have h:vs.length≤p.length:=by omega
  rw [ble_t h,ble_t (show vs.length≤(p ++ l).length by rw [List.length_append];omega)]
  dsimp only [cond_true]
  rw [List.drop_append_of_le_length h,List.append_assoc]
 | [],l,o+1,vs,h=>by simp at h
 | x::p,l,o+1,vs,h=>by
  rw [List.cons_append,wrC,wrC,wr_left p l o vs (by simp only [List.length_cons] at h;omega)]
  cases wrC p o vs <;> rfl
def updG (G:Nat→List B) (i:Nat) (r:List B):Nat→List B:=fun j=>if j=i then r else G j
theorem wr_cel {e k:Nat} {vs:List B} : ∀ {n i:Nat} {G:Nat→List B},(∀ j,(G j).length=e)→i<n→k+vs.length≤e→wrC (celR n G) (i*e+k) vs=match wrC (G i) k vs with|some r=>some (celR n (updG G i r))|none=>none
 | 0,_,_,_,h,_=>by omega
 | n+1,0,G,hG,_,hk=>by
  rw [Nat.zero_mul,Nat.zero_add]
  show wrC (G 0 ++ _) k vs=_
  rw [wr_left _ _ _ _ (by rw [hG];omega)]
  cases wrC (G 0) k vs <;> rfl
 | n+1,i+1,G,hG,h,hk=>by
  show wrC (G 0 ++ celR n fun i=>G (i+1)) _ vs=_
  rw [show (i+1)*e+k=(G 0).length+(i*e+k) by rw [hG,Nat.succ_mul];omega,wr_app,wr_cel (fun j=>hG (j+1)) (by omega) hk]
  cases wrC (G (i+1)) k vs with
  | none=>rfl
  | some r =>
   show some _=some _
   congr 1
   show G 0 ++ _=updG G (i+1) r 0 ++ _
   congr 2
   funext j
   unfold updG
   simp only [Nat.add_right_cancel_iff]
theorem cel_congr : ∀ {n:Nat} {G H:Nat→List B},(∀ i,i<n→G i=H i)→celR n G=celR n H
 | 0,_,_,_=>rfl
 | n+1,G,H,h=>by
  unfold celR
  rw [h 0 (by omega),cel_congr fun i hi=>h (i+1) (by omega)]
theorem rep_cel (z:List B) : ∀ n,rep z n=celR n fun _=>z
 | 0=>rfl
 | n+1=>by unfold rep celR;rw [rep_cel z n]
theorem cel_snoc : ∀ (n:Nat) (G:Nat→List B) (r:List B),celR n G ++ r=celR (n+1) (updG G n r)
 | 0,G,r=>by unfold celR updG;simp [celR]
 | n+1,G,r=>by
  rw [celR,List.append_assoc,cel_snoc n _ r]
  show _=updG G (n+1) r 0 ++ celR (n+1) _
  congr 2
  funext j
  unfold updG
  simp only [Nat.add_right_cancel_iff]
theorem cel_len {e:Nat} : ∀ {n:Nat} {G:Nat→List B},(∀ j,(G j).length=e)→(celR n G).length=n*e
 | 0,_,_=>by simp [celR]
 | n+1,G,h=>by
  rw [celR,List.length_append,h,cel_len fun j=>h (j+1),Nat.succ_mul];omega
theorem ld_sub {h:Tr Bk} {b o n:Nat} {cs:List B} (e:ld h b o n true=some (.agg cs)) (k m:Nat) (g:Bool) (hk:k+m≤n) (hm:0<m):ld h b (o+k) m g=rdC cs k m g:=by
 unfold ld at e ⊢
 cases hb:h b with
 | none=>rw [hb] at e;cases e
 | some bk =>
  rw [hb] at e
  dsimp only at e ⊢
  cases hr:bk.rd with
  | false=>rw [hr] at e;cases e
  | true =>
   rw [hr] at e
   simp only [cond_true] at e ⊢
   unfold rdC at e
   dsimp only at e
   cases hx:(Nat.beq ((bk.cells.drop o).take n).length n && ((bk.cells.drop o).take n).all B.kn) with
   | false=>rw [hx] at e;cases e
   | true =>
    rw [hx] at e
    cases e
    rw [Bool.and_eq_true] at hx
    have hl:=Nat.eq_of_beq_eq_true hx.1
    rw [List.length_take] at hl
    unfold rdC
    cases g with
    | true =>
     dsimp only
     rw [List.drop_take,List.take_take,List.drop_drop,Nat.min_eq_left (by omega)]
    | false =>
     dsimp only
     rw [List.drop_take,List.drop_drop]
     have hd:n - k=(n - k - 1)+1:=by omega
     rw [hd]
     cases (bk.cells.drop (o+k)) <;> rfl
theorem ld_sub0 {h:Tr Bk} {b o n:Nat} {cs:List B} (e:ld h b o n true=some (.agg cs)) (m:Nat) (g:Bool) (hk:m≤n) (hm:0<m):ld h b o m g=rdC cs 0 m g:=ld_sub e 0 m g (by omega) hm
/-! ### Fractions; single cells -/
def ratC (q:Rat):List B:=[.bool (rn q),.str (rs q),.str (rd q)]
def rats (n:Nat) (f:Nat→Rat):List B:=celR n fun i=>ratC (f i)
def updF {α:Type} (f:Nat→α) (i:Nat) (q:α):Nat→α:=fun j=>if j=i then q else f j
theorem rd_rats (n:Nat) (f:Nat→Rat) (i:Nat) (h:i<n):rdC (rats n f) (i*3) 3 true=some (.agg [.bool (rn (f i)),.str (rs (f i)),.str (rd (f i))]):=by
 unfold rats
 have:=rd_cel (e:=3) (k:=0) (m:=3) (G:=fun i=>ratC (f i)) true (fun _=>rfl) h (by decide) (by decide)
 rw [Nat.add_zero] at this
 rw [this];rfl
theorem wr_rats (n:Nat) (f:Nat→Rat) (i:Nat) (q:Rat) (h:i<n):wrC (rats n f) (i*3) [.bool (rn q),.str (rs q),.str (rd q)]=some (rats n (updF f i q)):=by
 unfold rats
 have:=wr_cel (e:=3) (k:=0) (vs:=ratC q) (G:=fun i=>ratC (f i)) (fun _=>rfl) h (Nat.le_refl 3)
 rw [Nat.add_zero] at this
 show wrC _ _ (ratC q)=_
 rw [this]
 show some _=some _
 congr 2
 funext j
 unfold updG updF
 split <;> rfl
theorem rats_snoc (n:Nat) (f:Nat→Rat) (q:Rat):rats n f ++ [.bool (rn q),.str (rs q),.str (rd q)]=rats (n+1) (updF f n q):=by
 unfold rats
 rw [show [B.bool (rn q),.str (rs q),.str (rd q)]=ratC q from rfl,cel_snoc]
 congr 1
 funext j
 unfold updG updF
 split <;> rfl
theorem rats_len (n:Nat) (f:Nat→Rat):(rats n f).length=n*3:=cel_len fun _=>rfl
def ones (n:Nat) (g:Nat→B):List B:=celR n fun i=>[g i]
theorem rd_ones (n:Nat) (g:Nat→B) (i:Nat) (h:i<n):rdC (ones n g) (i*1) 1 false=bif (g i).kn then some (.c (g i)) else none:=by
 unfold ones
 have:=rd_cel (e:=1) (k:=0) (m:=1) (G:=fun i=>[g i]) false (fun _=>rfl) h (by decide) (by decide)
 rw [Nat.add_zero] at this
 rw [this];rfl
theorem wr_ones (n:Nat) (g:Nat→B) (i:Nat) (x:B) (h:i<n):wrC (ones n g) (i*1) [x]=some (ones n (updF g i x)):=by
 unfold ones
 have:=wr_cel (e:=1) (k:=0) (vs:=[x]) (G:=fun i=>[g i]) (fun _=>rfl) h (Nat.le_refl 1)
 rw [Nat.add_zero] at this
 rw [this]
 show some _=some _
 congr 2
 funext j
 unfold updG updF
 split <;> rfl
theorem ones_congr {n:Nat} {f g:Nat→B} (h : ∀ i,i<n→f i=g i):ones n f=ones n g:=cel_congr fun i hi=>by rw [h i hi]
theorem rep_ones (x:B) (n:Nat):rep [x] n=ones n fun _=>x:=rep_cel _ n
theorem ones_snoc (n:Nat) (g:Nat→B) (x:B):ones n g ++ [x]=ones (n+1) (updF g n x):=by
 unfold ones
 rw [cel_snoc]
 congr 1
 funext j
 unfold updG updF
 split <;> rfl
theorem ones_len (n:Nat) (g:Nat→B):(ones n g).length=n*1:=cel_len fun _=>rfl
theorem updF_same {α:Type} (f:Nat→α) (i:Nat) (q:α):updF f i q i=q:=if_pos rfl
theorem updF_ne {α:Type} (f:Nat→α) (i j:Nat) (q:α) (h:j≠i):updF f i q j=f j:=if_neg h
/-! ### Slices of slices -/
attribute [go_sem] Option.map_some Option.map_none
attribute [go_sem] rd_rats wr_rats rd_ones wr_ones rep_ones
/-! ### Frames with exceptions -/
structure FrE (ex:List Nat) (σ σ' : St):Prop where
 le:σ.nxt≤σ'.nxt
 wf:WF σ'
 old : ∀ b,b<σ.nxt→¬ b∈ex→σ'.h b=σ.h b
/-! ### Numbers with a common denominator -/
theorem Sm.int {k:Nat} {a:Int} (hk:k≠0) (h:a.natAbs<256 ^ k):Sm k (a:Rat):=⟨by show (a:Rat).num.natAbs<_;rwa [Rat.num_intCast],by rw [Rat.den_intCast];exact Nat.one_lt_pow hk (by decide)⟩
section
variable {D k l:Nat} {p q:Rat}
end
end Go.Proofs.Xe
