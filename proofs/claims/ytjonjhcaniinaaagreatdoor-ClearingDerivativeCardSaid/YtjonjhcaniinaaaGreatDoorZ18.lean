/- The bJ: a run as an equation, so that it can be worked out. -/
import Derived.Test.YtjonjhcaniinaaaGreatDoorZ17
import Derived.Attr
set_option linter.all false
namespace Go.Proofs.Xe
open Go.RowKit Go.Proofs.Ins
noncomputable def WU (tm:Tr V):List Nat→Tr V
 | []=>tm
 | d::l=>(WU tm l).set d none
theorem ER (tm:Tr V) : ∀ ds,xC tm ds=some (WU tm ds)
 | []=>rfl
 | d::l=>by
  unfold xC
  rw [ER tm l]
  rfl
theorem YR (tm:Tr V) (j:Nat) : ∀ ds:List Nat,ds.contains j=false→(WU tm ds).get j=tm.get j
 | [],_=>rfl
 | d::l,h=>by
  rw [List.contains_cons,Bool.or_eq_false_iff] at h
  show ((WU tm l).set d none).get j=_
  rw [Tr.lN,if_neg (by simpa using h.1),YR tm j l h.2]
theorem adN (tm:Tr V) (ds:List Nat) (j:Nat) (h:ds.contains j=false):Tr.aj (WU tm ds) j=Tr.aj tm j:=by
 unfold Tr.aj
 rw [YR tm j ds h]
def fnd:List Rs→Nat→Option Rs
 | [],_=>none
 | r::l,u=>bif Nat.beq r.i u then some r else fnd l u
theorem TP (u:Nat) : ∀ l:List Rs,l.find? (fun r=>Nat.beq r.i u)=fnd l u
 | []=>rfl
 | r::l=>by
  rw [List.find?_cons,fnd,TP u l]
  cases Nat.beq r.i u <;> rfl
noncomputable def tmO:Option (Tr V)→Option Rs→Option (Tr V)
 | some tm,some r=>some (Ap tm r.d r.v)
 | _,_=>none
theorem adO (bf:Tr V) (res:List Rs):Ew bf res []=some bf:=rfl
theorem aa7 (bf:Tr V) (res:List Rs) (u:Nat) (us:List Nat):Ew bf res (u::us)=tmO (Ew bf res us) (fnd res u):=by
 rw [Ew,TP]
 cases Ew bf res us with
 | none=>rfl
 | some tm =>
  cases fnd res u with
  | none=>rfl
  | some r=>show Bf tm r.d r.v=_;rw [Dt];rfl
theorem adP (tm:Tr V) (i:Nat) (d:Option Nat) (v:V):tmO (some tm) (some ⟨i,d,v⟩)=some (Ap tm d v):=rfl
theorem ahT (i:Nat) (d:Option Nat) (v:V) (l:List Rs):fnd (⟨i,d,v⟩::l) i=some ⟨i,d,v⟩:=by unfold fnd;simp
theorem adQ (i u:Nat) (d:Option Nat) (v:V) (l:List Rs) (h:i≠u):fnd (⟨i,d,v⟩::l) u=fnd l u:=by rw [fnd,NS h];rfl
theorem aa8 (bZ tm:Tr V):xW bZ tm []=some tm:=rfl
theorem WV (bZ tm:Tr V) (t:Nat) (l:List Nat):xW bZ tm (t::l)=match xW bZ tm l with|some tm=>some (Ap tm (some t) (bZ.aj t))|none=>none:=by
 rw [xW]
 cases xW bZ tm l with
 | none=>rfl
 | some tm=>show Bf tm _ _=_;rw [Dt]
theorem alM (bZ bf:Tr V) (res:List Rs) (us os:List Nat):Jq bZ bf res us os=match Ew bf res us with|some tm=>xW bZ tm os|none=>none:=rfl
theorem adR (bf:Tr V):Ey bf []=some bf:=rfl
theorem aa9 (bf:Tr V) (i:Nat) (d:Option Nat) (v:V) (l:List Rs):Ey bf (⟨i,d,v⟩::l)=match Ey bf l with|some tm=>some (Ap tm d v)|none=>none:=by
 rw [Ey]
 cases Ey bf l with
 | none=>rfl
 | some tm=>show Bf tm _ _=_;rw [Dt]
def yt (g:Option (Nat×Bool)) (tm:Tr V) (A B:Prop):Prop:=match gate g tm with|some true=>A|some false=>B|none=>False
def gsV (v:V) (b:Bool) (A B:Prop):Prop:=match v with|.c (.bool c)=>(bif c == b then A else B)|.tnil=>B|_=>False
theorem alN (tm:Tr V) (A B:Prop):yt none tm A B=A:=rfl
theorem alO (t:Nat) (b:Bool) (tm:Tr V) (A B:Prop):yt (some (t,b)) tm A B=gsV (tm.aj t) b A B:=by
 unfold yt gsV gate
 dsimp only
 generalize tm.aj t=v
 rcases v with x|_|_|_|_|_|_ <;> try rfl
 cases x <;> try rfl
 next c=>cases c <;> cases b <;> rfl
theorem alP (A B:Prop):gsV (.c (.bool true)) true A B=A:=rfl
theorem alQ (A B:Prop):gsV (.c (.bool true)) false A B=B:=rfl
theorem alR (A B:Prop):gsV (.c (.bool false)) true A B=B:=rfl
theorem alS (A B:Prop):gsV (.c (.bool false)) false A B=A:=rfl
theorem ahU (b:Bool) (A B:Prop):gsV .tnil b A B=B:=rfl
theorem YS {p:Prop} [Decidable p] {A B:Prop} (h1:p→A) (h2 : ¬ p→B):gsV (.c (.bool (decide p))) true A B:=by
 by_cases h:p
 ·rw [decide_eq_true h];exact h1 h
 ·rw [decide_eq_false h];exact h2 h
theorem TQ {p:Prop} [Decidable p] {A B:Prop} (h1:p→B) (h2 : ¬ p→A):gsV (.c (.bool (decide p))) false A B:=by
 by_cases h:p
 ·rw [decide_eq_true h];exact h1 h
 ·rw [decide_eq_false h];exact h2 h
def qM (bZ bf:Tr V) (qs:List DO) (σ:St) (res:List Rs) (pd:List iD) (K:St→List Rs→List iD→Prop):Prop :=
 match rJ bZ bf qs σ res pd with
 | some (σ,res,pd)=>K σ res pd
 | none=>False
theorem ahV (bZ bf:Tr V) (σ:St) (res:List Rs) (pd:List iD) (K:St→List Rs→List iD→Prop):qM bZ bf [] σ res pd K=K σ res pd:=rfl
section
variable (E:Env) (pt:List (List Nat)) (bZ bf:Tr V) (σ:St) (res:List Rs) (pd:List iD)
theorem nI (i:Nat) (us os:List Nat) (d:Option Nat) (g:Option (Nat×Bool)) (op:qL) (l:List DO) (K:St→List Rs→List iD→Prop) (h:op.kind = .q) :
  qM bZ bf (⟨i,us,os,⟨d,g,op⟩⟩::l) σ res pd K=match Jq bZ bf res us os with
   | some tm=>yt g tm (wpOp E op tm σ fun v _=>qM bZ bf l σ (⟨i,d,v⟩::res) (⟨i,⟨d,g,op⟩,tm,v,true,none⟩::pd) K) (qM bZ bf l σ (⟨i,d,.tnil⟩::res) (⟨i,⟨d,g,op⟩,tm,.tnil,false,none⟩::pd) K)
   | none=>False:=by
 unfold qM yt
 rw [rJ]
 dsimp only
 cases Jq bZ bf res us os with
 | none=>rfl
 | some tm =>
  dsimp only
  have hc : ∀ g l,op≠.call g l:=fun g l e=>by rw [e] at h;cases h
  cases gate g tm with
  | none=>rfl
  | some b =>
   cases b with
   | true =>
    dsimp only
    rw [h]
    dsimp only
    rw [iL E tm σ _ h hc]
    unfold EP
    cases dB op tm σ <;> rfl
   | false =>
    dsimp only
    rw [h]
theorem abb (i:Nat) (us os:List Nat) (d:Option Nat) (g:Option (Nat×Bool)) (z:List B) (l:List DO) (K:St→List Rs→List iD→Prop) :
  qM bZ bf (⟨i,us,os,⟨d,g,.alloc z⟩⟩::l) σ res pd K=match Jq bZ bf res us os with
   | some tm=>yt g tm (qM bZ bf l ⟨hset σ.h σ.ah ⟨z,none⟩,σ.ah+1⟩ (⟨i,d,.c (.ptr σ.ah 0)⟩::res) (⟨i,⟨d,g,.alloc z⟩,tm,.c (.ptr σ.ah 0),true,some σ.ah⟩::pd) K)
    (qM bZ bf l σ (⟨i,d,.tnil⟩::res) (⟨i,⟨d,g,.alloc z⟩,tm,.tnil,false,none⟩::pd) K)
   | none=>False:=by
 unfold qM yt
 rw [rJ]
 dsimp only
 cases Jq bZ bf res us os with
 | none=>rfl
 | some tm =>
  dsimp only
  cases gate g tm with
  | none=>rfl
  | some b =>
   cases b with
   | true =>
    dsimp only [qL.kind,kC]
    rw [kD]
   | false=>rfl
theorem ahW (i:Nat) (us os:List Nat) (d:Option Nat) (g:Option (Nat×Bool)) (x:O) (l:List DO) (K:St→List Rs→List iD→Prop) :
  qM bZ bf (⟨i,us,os,⟨d,g,.box x⟩⟩::l) σ res pd K=match Jq bZ bf res us os with
   | some tm=>yt g tm (match (x.ev tm).cells with
    | some z=>qM bZ bf l ⟨hset σ.h σ.ah ⟨z,none⟩,σ.ah+1⟩ (⟨i,d,.c (.ptr σ.ah 0)⟩::res) (⟨i,⟨d,g,.box x⟩,tm,.c (.ptr σ.ah 0),true,some σ.ah⟩::pd) K
    | none=>False) (qM bZ bf l σ (⟨i,d,.tnil⟩::res) (⟨i,⟨d,g,.box x⟩,tm,.tnil,false,none⟩::pd) K)
   | none=>False:=by
 unfold qM yt
 rw [rJ]
 dsimp only
 cases Jq bZ bf res us os with
 | none=>rfl
 | some tm =>
  dsimp only
  cases gate g tm with
  | none=>rfl
  | some b =>
   cases b with
   | true =>
    dsimp only [qL.kind,kC]
    cases (x.ev tm).cells with
    | none=>rfl
    | some z=>dsimp only;rw [kD]
   | false=>rfl
theorem ahX (i:Nat) (us os:List Nat) (d:Option Nat) (g:Option (Nat×Bool)) (e n:Nat) (z:List B) (ps:List (Nat×Nat×O)) (l:List DO) (K:St→List Rs→List iD→Prop) (hn:n*e≤16777216) (hn2:n≤16777216) :
  qM bZ bf (⟨i,us,os,⟨d,g,.bsl e n z ps⟩⟩::l) σ res pd K=match Jq bZ bf res us os with
   | some tm=>yt g tm (match uU (rep z n) (ps.map fun p=>(p.1,p.2.1,p.2.2.ev tm)) with
    | some c=>qM bZ bf l ⟨hset σ.h σ.ah ⟨c,none⟩,σ.ah+1⟩ (⟨i,d,.c (.sl σ.ah 0 n (.ex n))⟩::res) (⟨i,⟨d,g,.bsl e n z ps⟩,tm,.c (.sl σ.ah 0 n (.ex n)),true,some σ.ah⟩::pd) K
    | none=>False) (qM bZ bf l σ (⟨i,d,.tnil⟩::res) (⟨i,⟨d,g,.bsl e n z ps⟩,tm,.tnil,false,none⟩::pd) K)
   | none=>False:=by
 unfold qM yt
 rw [rJ]
 dsimp only
 cases Jq bZ bf res us os with
 | none=>rfl
 | some tm =>
  dsimp only
  cases gate g tm with
  | none=>rfl
  | some b =>
   cases b with
   | true =>
    dsimp only [qL.kind,kC]
    rw [kX hn,kX hn2]
    simp only [cond_true,Bool.and_self]
    cases uU (rep z n) (ps.map fun p=>(p.1,p.2.1,p.2.2.ev tm)) with
    | none=>rfl
    | some c=>dsimp only;rw [kD]
   | false=>rfl
def agn (σ:St):List iD→Prop
 | []=>True
 | p::l=>again σ p=true∧agn σ l
theorem PZ (σ:St) : ∀ l:List iD,(l.all (again σ)=true)=agn σ l
 | []=>by simp [agn]
 | p::l=>by rw [List.all_cons,Bool.and_eq_true,PZ σ l];rfl
theorem ahY (σ:St):agn σ []=True:=rfl
theorem adS (σ:St) (p:iD) (l:List iD):agn σ (p::l)=(again σ p=true∧agn σ l):=rfl
def abd (l:List Nat):List iD→List iD
 | []=>[]
 | p::pd=>bif l.contains p.i then abd l pd else p::abd l pd
theorem adT (l:List Nat) : ∀ pd:List iD,pd.filter (fun p=>!(l.contains p.i))=abd l pd
 | []=>rfl
 | p::pd=>by
  rw [List.filter_cons,abd,adT l pd]
  cases l.contains p.i <;> rfl
theorem ahZ (qs:List DO) (Q:Tr V→St→Prop):TF E pt bZ bf (.fin qs) σ res pd Q=qM bZ bf qs σ res pd fun σ res pd=>agn σ pd∧(match Ey bf res with|some tm=>Q tm σ|none=>False):=by
 unfold TF qM
 cases rJ bZ bf qs σ res pd with
 | none=>rfl
 | some r=>dsimp only;rw [PZ];rfl
theorem ah0 (qs:List DO) (i:Nat) (us os:List Nat) (d:Option Nat) (g:Option (Nat×Bool)) (op:qL) (r:Dr) (Q:Tr V→St→Prop) :
  TF E pt bZ bf (.act qs ⟨i,us,os,⟨d,g,op⟩⟩ r) σ res pd Q=qM bZ bf qs σ res pd fun σ res pd=>agn σ pd∧(match Jq bZ bf res us os with
   | some tm=>wpG E ⟨d,g,op⟩ tm σ fun v σ'=>TF E pt bZ bf r σ' (⟨i,d,v⟩::res) (abd (pt.getD i []) pd) Q
   | none=>False):=by
 rw [TF]
 unfold qM
 cases rJ bZ bf qs σ res pd with
 | none=>rfl
 | some r=>dsimp only;rw [PZ,adT];rfl
theorem adU (b:B):aaz b b=b.kn:=by
 cases b <;> simp [aaz,B.kn]
 case int k n=>cases n <;> simp [eqI]
 case sl b o n c=>cases c <;> simp [eqC]
theorem WW : ∀ l:List B,Gt l l=l.all B.kn
 | []=>rfl
 | b::l=>by
  rw [List.all_cons]
  unfold Gt
  rw [adU b,WW l]
theorem ah1 (l:List B):eqV (.agg l) (.agg l)=l.all B.kn:=WW l
theorem apz (b:B):eqV (.c b) (.c b)=b.kn:=adU b
theorem iP (i:Nat) (d:Option Nat) (g9:Option (Nat×Bool)) (op:qL) (tm:Tr V) (v:V) (h:op.kind = .q) (h2:op.looks=false):again σ ⟨i,⟨d,g9,op⟩,tm,v,true,none⟩=true:=by
 unfold again
 dsimp only [cond_true]
 rw [h,h2];rfl
theorem WX (i:Nat) (d:Option Nat) (g9:Option (Nat×Bool)) (n:Nat) (g:Bool) (x:O) (tm:Tr V) (v:V):again σ ⟨i,⟨d,g9,.load n g x⟩,tm,v,true,none⟩=match (match x.ev tm with|.c (.ptr b o)=>ld σ.h b o n g|_=>none) with|some u=>eqV u v|none=>false:=by
 unfold again
 rfl
theorem TU (i:Nat) (d:Option Nat) (g9:Option (Nat×Bool)) (z:List B) (tm:Tr V) (v:V) (b:Nat):again σ ⟨i,⟨d,g9,.alloc z⟩,tm,v,true,some b⟩=match σ.h b with|some ⟨c,none⟩=>Gt c z|_=>false:=by
 unfold again
 rfl
theorem abe (i:Nat) (d:Option Nat) (g9:Option (Nat×Bool)) (x:O) (tm:Tr V) (v:V) (b:Nat):again σ ⟨i,⟨d,g9,.box x⟩,tm,v,true,some b⟩=match (x.ev tm).cells with|some z=>(match σ.h b with|some ⟨c,none⟩=>Gt c z|_=>false)|none=>false:=by
 unfold again
 dsimp only [cond_true,qL.kind,kC]
 cases (x.ev tm).cells <;> rfl
theorem abf (i:Nat) (d:Option Nat) (g9:Option (Nat×Bool)) (e n:Nat) (z:List B) (ps:List (Nat×Nat×O)) (tm:Tr V) (v:V) (b:Nat) (hn:n*e≤16777216) (hn2:n≤16777216):again σ ⟨i,⟨d,g9,.bsl e n z ps⟩,tm,v,true,some b⟩=match uU (rep z n) (ps.map fun p=>(p.1,p.2.1,p.2.2.ev tm)) with|some z=>(match σ.h b with|some ⟨c,none⟩=>Gt c z|_=>false)|none=>false:=by
 unfold again
 dsimp only [cond_true,qL.kind,kC]
 rw [kX hn,kX hn2]
 simp only [cond_true,Bool.and_self]
 cases uU (rep z n) (ps.map fun p=>(p.1,p.2.1,p.2.2.ev tm)) <;> rfl
end
theorem ah2 (σ:St) (i:Nat) (o:AO) (tm:Tr V) (v:V) (nm:Option Nat):again σ ⟨i,o,tm,v,false,nm⟩=true:=rfl
section
def E0:Env:=⟨fun _=>none,fun _ _ _=>none⟩
variable (bZ bf tm:Tr V) (σ:St) (res:List Rs) (pd:List iD) (i:Nat) (us os:List Nat) (d:Option Nat) (g9:Option (Nat×Bool)) (l:List DO) (K:St→List Rs→List iD→Prop) (v:V)
def qR (g:Option (Nat×Bool)) (bZ bf:Tr V) (res:List Rs) (us os:List Nat) (σ:St) (pd:List iD) (i:Nat) (d:Option Nat) (op:qL) (l:List DO) (K:St→List Rs→List iD→Prop):Prop:=match Jq bZ bf res us os with
 | some tm=>yt g tm (wpOp E0 op tm σ fun v _=>qM bZ bf l σ (⟨i,d,v⟩::res) (⟨i,⟨d,g,op⟩,tm,v,true,none⟩::pd) K) (qM bZ bf l σ (⟨i,d,.tnil⟩::res) (⟨i,⟨d,g,op⟩,tm,.tnil,false,none⟩::pd) K)
 | none=>False
theorem apC (g:Option (Nat×Bool)) (bZ bf:Tr V) (res:List Rs) (us os:List Nat) (σ:St) (pd:List iD) (i:Nat) (d:Option Nat) (op:qL) (l:List DO) (K:St→List Rs→List iD→Prop):qR g bZ bf res us os σ pd i d op l K=match Jq bZ bf res us os with
 | some tm=>yt g tm (wpOp E0 op tm σ fun v _=>qM bZ bf l σ (⟨i,d,v⟩::res) (⟨i,⟨d,g,op⟩,tm,v,true,none⟩::pd) K) (qM bZ bf l σ (⟨i,d,.tnil⟩::res) (⟨i,⟨d,g,op⟩,tm,.tnil,false,none⟩::pd) K)
 | none=>False:=rfl
theorem alT (x:O):qM bZ bf (⟨i,us,os,⟨d,g9,.mov x⟩⟩::l) σ res pd K=qR g9 bZ bf res us os σ pd i d (.mov x) l K:=nI E0 _ _ _ _ _ _ _ _ _ _ _ _ _ rfl
theorem alU (x:O):again σ ⟨i,⟨d,g9,.mov x⟩,tm,v,true,none⟩=true:=iP _ _ _ _ _ _ _ rfl rfl
theorem ah3 (c a b:O):qM bZ bf (⟨i,us,os,⟨d,g9,.pick c a b⟩⟩::l) σ res pd K=qR g9 bZ bf res us os σ pd i d (.pick c a b) l K:=nI E0 _ _ _ _ _ _ _ _ _ _ _ _ _ rfl
theorem ah4 (c a b:O):again σ ⟨i,⟨d,g9,.pick c a b⟩,tm,v,true,none⟩=true:=iP _ _ _ _ _ _ _ rfl rfl
theorem ah5 (n:Nat) (g:Bool) (x:O):qM bZ bf (⟨i,us,os,⟨d,g9,.load n g x⟩⟩::l) σ res pd K=qR g9 bZ bf res us os σ pd i d (.load n g x) l K:=nI E0 _ _ _ _ _ _ _ _ _ _ _ _ _ rfl
theorem adV (n:Nat) (x:O):qM bZ bf (⟨i,us,os,⟨d,g9,.yJ n x⟩⟩::l) σ res pd K=qR g9 bZ bf res us os σ pd i d (.yJ n x) l K:=nI E0 _ _ _ _ _ _ _ _ _ _ _ _ _ rfl
theorem adW (n:Nat) (x:O):again σ ⟨i,⟨d,g9,.yJ n x⟩,tm,v,true,none⟩=true:=iP _ _ _ _ _ _ _ rfl rfl
theorem adZ (o n:Nat) (g:Bool) (x:O):qM bZ bf (⟨i,us,os,⟨d,g9,.field o n g x⟩⟩::l) σ res pd K=qR g9 bZ bf res us os σ pd i d (.field o n g x) l K:=nI E0 _ _ _ _ _ _ _ _ _ _ _ _ _ rfl
theorem ad1 (o n:Nat) (g:Bool) (x:O):again σ ⟨i,⟨d,g9,.field o n g x⟩,tm,v,true,none⟩=true:=iP _ _ _ _ _ _ _ rfl rfl
theorem ad2 (e:Nat) (x j:O):qM bZ bf (⟨i,us,os,⟨d,g9,.AB e x j⟩⟩::l) σ res pd K=qR g9 bZ bf res us os σ pd i d (.AB e x j) l K:=nI E0 _ _ _ _ _ _ _ _ _ _ _ _ _ rfl
theorem ad3 (e:Nat) (x j:O):again σ ⟨i,⟨d,g9,.AB e x j⟩,tm,v,true,none⟩=true:=iP _ _ _ _ _ _ _ rfl rfl
theorem alV (n:Nat) (x:O):qM bZ bf (⟨i,us,os,⟨d,g9,.ext n x⟩⟩::l) σ res pd K=qR g9 bZ bf res us os σ pd i d (.ext n x) l K:=nI E0 _ _ _ _ _ _ _ _ _ _ _ _ _ rfl
theorem alW (n:Nat) (x:O):again σ ⟨i,⟨d,g9,.ext n x⟩,tm,v,true,none⟩=true:=iP _ _ _ _ _ _ _ rfl rfl
theorem alX (b:BinOp) (x y:O):qM bZ bf (⟨i,us,os,⟨d,g9,.bin b x y⟩⟩::l) σ res pd K=qR g9 bZ bf res us os σ pd i d (.bin b x y) l K:=nI E0 _ _ _ _ _ _ _ _ _ _ _ _ _ rfl
theorem alY (b:BinOp) (x y:O):again σ ⟨i,⟨d,g9,.bin b x y⟩,tm,v,true,none⟩=true:=iP _ _ _ _ _ _ _ rfl rfl
theorem alZ (p:Bool) (x y:O):qM bZ bf (⟨i,us,os,⟨d,g9,.eqb p x y⟩⟩::l) σ res pd K=qR g9 bZ bf res us os σ pd i d (.eqb p x y) l K:=nI E0 _ _ _ _ _ _ _ _ _ _ _ _ _ rfl
theorem al0 (p:Bool) (x y:O):again σ ⟨i,⟨d,g9,.eqb p x y⟩,tm,v,true,none⟩=true:=iP _ _ _ _ _ _ _ rfl rfl
theorem ad4 (p:Bool) (x y:O):qM bZ bf (⟨i,us,os,⟨d,g9,.AL p x y⟩⟩::l) σ res pd K=qR g9 bZ bf res us os σ pd i d (.AL p x y) l K:=nI E0 _ _ _ _ _ _ _ _ _ _ _ _ _ rfl
theorem ad5 (p:Bool) (x y:O):again σ ⟨i,⟨d,g9,.AL p x y⟩,tm,v,true,none⟩=true:=iP _ _ _ _ _ _ _ rfl rfl
theorem ad6 (p:Bool) (x y:O):qM bZ bf (⟨i,us,os,⟨d,g9,.Dc p x y⟩⟩::l) σ res pd K=qR g9 bZ bf res us os σ pd i d (.Dc p x y) l K:=nI E0 _ _ _ _ _ _ _ _ _ _ _ _ _ rfl
theorem ad7 (p:Bool) (x y:O):again σ ⟨i,⟨d,g9,.Dc p x y⟩,tm,v,true,none⟩=true:=iP _ _ _ _ _ _ _ rfl rfl
theorem al1 (k:Nat) (p:Bool) (x:O):qM bZ bf (⟨i,us,os,⟨d,g9,.nil k p x⟩⟩::l) σ res pd K=qR g9 bZ bf res us os σ pd i d (.nil k p x) l K:=nI E0 _ _ _ _ _ _ _ _ _ _ _ _ _ rfl
theorem al2 (k:Nat) (p:Bool) (x:O):again σ ⟨i,⟨d,g9,.nil k p x⟩,tm,v,true,none⟩=true:=iP _ _ _ _ _ _ _ rfl rfl
theorem al3 (x:O):qM bZ bf (⟨i,us,os,⟨d,g9,.not x⟩⟩::l) σ res pd K=qR g9 bZ bf res us os σ pd i d (.not x) l K:=nI E0 _ _ _ _ _ _ _ _ _ _ _ _ _ rfl
theorem al4 (x:O):again σ ⟨i,⟨d,g9,.not x⟩,tm,v,true,none⟩=true:=iP _ _ _ _ _ _ _ rfl rfl
theorem ah6 (k:IntKind) (x:O):qM bZ bf (⟨i,us,os,⟨d,g9,.conv k x⟩⟩::l) σ res pd K=qR g9 bZ bf res us os σ pd i d (.conv k x) l K:=nI E0 _ _ _ _ _ _ _ _ _ _ _ _ _ rfl
theorem ah7 (k:IntKind) (x:O):again σ ⟨i,⟨d,g9,.conv k x⟩,tm,v,true,none⟩=true:=iP _ _ _ _ _ _ _ rfl rfl
theorem ad8 (z:List B) (ps:List (Nat×Nat×O)):qM bZ bf (⟨i,us,os,⟨d,g9,.build z ps⟩⟩::l) σ res pd K=qR g9 bZ bf res us os σ pd i d (.build z ps) l K:=nI E0 _ _ _ _ _ _ _ _ _ _ _ _ _ rfl
theorem ad9 (z:List B) (ps:List (Nat×Nat×O)):again σ ⟨i,⟨d,g9,.build z ps⟩,tm,v,true,none⟩=true:=iP _ _ _ _ _ _ _ rfl rfl
theorem ah8 (f:Nat) (cs:List O):qM bZ bf (⟨i,us,os,⟨d,g9,.Py f cs⟩⟩::l) σ res pd K=qR g9 bZ bf res us os σ pd i d (.Py f cs) l K:=nI E0 _ _ _ _ _ _ _ _ _ _ _ _ _ rfl
theorem ah9 (f:Nat) (cs:List O):again σ ⟨i,⟨d,g9,.Py f cs⟩,tm,v,true,none⟩=true:=iP _ _ _ _ _ _ _ rfl rfl
theorem al5 (x:O):qM bZ bf (⟨i,us,os,⟨d,g9,.len x⟩⟩::l) σ res pd K=qR g9 bZ bf res us os σ pd i d (.len x) l K:=nI E0 _ _ _ _ _ _ _ _ _ _ _ _ _ rfl
theorem al6 (x:O):again σ ⟨i,⟨d,g9,.len x⟩,tm,v,true,none⟩=true:=iP _ _ _ _ _ _ _ rfl rfl
theorem aea (e:Nat) (x:O) (lo hi mx:Option O):qM bZ bf (⟨i,us,os,⟨d,g9,.slice e x lo hi mx⟩⟩::l) σ res pd K=qR g9 bZ bf res us os σ pd i d (.slice e x lo hi mx) l K:=nI E0 _ _ _ _ _ _ _ _ _ _ _ _ _ rfl
theorem aeb (e:Nat) (x:O) (lo hi mx:Option O):again σ ⟨i,⟨d,g9,.slice e x lo hi mx⟩,tm,v,true,none⟩=true:=iP _ _ _ _ _ _ _ rfl rfl
theorem aia (x:O):qM bZ bf (⟨i,us,os,⟨d,g9,.L9 x⟩⟩::l) σ res pd K=qR g9 bZ bf res us os σ pd i d (.L9 x) l K:=nI E0 _ _ _ _ _ _ _ _ _ _ _ _ _ rfl
theorem aib (x:O):again σ ⟨i,⟨d,g9,.L9 x⟩,tm,v,true,none⟩=true:=iP _ _ _ _ _ _ _ rfl rfl
theorem aic (x y:O):qM bZ bf (⟨i,us,os,⟨d,g9,.min2 x y⟩⟩::l) σ res pd K=qR g9 bZ bf res us os σ pd i d (.min2 x y) l K:=nI E0 _ _ _ _ _ _ _ _ _ _ _ _ _ rfl
theorem aie (x y:O):again σ ⟨i,⟨d,g9,.min2 x y⟩,tm,v,true,none⟩=true:=iP _ _ _ _ _ _ _ rfl rfl
end
theorem al7 {E:Env} {tm:Tr V} {σ:St} {Q:AX→Tr V→St→Prop} {d:Dr} {pt:List (List Nat)} {ds:List Nat} (h:TF E pt tm (WU tm ds) d σ [] [] fun tm' σ'=>Q .normal tm' σ'):bM E (.drawn d pt ds) tm σ Q :=
 aaP _ (ER tm ds) h
section
variable {E:Env}
theorem aif {n:Nat} {op:qL} {tm:Tr V} {σ σ' : St} {v:V} {K:V→St→Prop} (h:lZ (ig E n) op tm σ=some (v,σ')) (hk:K v σ'):wpOp E op tm σ K:=by
 unfold wpOp
 split
 ·next g args =>
  unfold lZ at h
  simp only [qL.kind] at h
  split at h
  ·next f a e =>
   unfold YF at e
   cases hg:g.ev tm with
   | fn f' caps =>
    dsimp only at e
    rw [hg] at e
    obtain ⟨rfl,rfl⟩:=Prod.mk.inj (Option.some.inj e)
    exact ⟨n,v,σ',h,hk⟩
   | _=>dsimp only at e;rw [hg] at e;cases e
  ·cases h
 ·next hne =>
  have e:lZ (fun _ _ _=>none) op tm σ=lZ (ig E n) op tm σ:=by
   unfold lZ
   cases hk2:op.kind with
   | c=>cases op <;> simp only [qL.kind,reduceCtorEq] at hk2;exact (hne _ _ rfl).elim
   | _=>rfl
  rw [e,h]
  exact hk
theorem aec {n:Nat} {o:AO} {tm:Tr V} {σ σ' : St} {v:V} {K:V→St→Prop} (h:stepG (ig E n) o tm σ=some (v,σ')) (hk:K v σ'):wpG E o tm σ K:=by
 unfold wpG
 unfold stepG at h
 split at h
 ·next e=>rw [e];exact aif h hk
 ·next e=>rw [e];cases h;exact hk
 ·cases h
theorem TV {n:Nat} : ∀ {l:List AO} {tm tm' : Tr V} {σ σ' : St} {Q:Tr V→St→Prop},oQ (ig E n) l tm σ=some (tm',σ')→Q tm' σ'→wpOps E l tm σ Q
 | [],_,_,_,_,_,h,hq=>by cases h;exact hq
 | o::l,tm,tm',σ,σ',Q,h,hq=>by
  unfold oQ at h
  split at h
  ·next v σ1 e =>
   rw [Dt] at h
   exact aec e (TV h hq)
  ·cases h
theorem aed {n:Nat} {pt:List (List Nat)} {bZ bf:Tr V} : ∀ {d:Dr} {σ σ' : St} {res:List Rs} {pd:List iD} {tm' : Tr V} {Q:Tr V→St→Prop},yL (ig E n) pt bZ bf d σ res pd=some (tm',σ')→Q tm' σ'→TF E pt bZ bf d σ res pd Q
 | .fin qs,σ,σ',res,pd,tm',Q,h,hq=>by
  unfold yL at h
  unfold TF
  split at h
  ·next σ1 res1 pd1 e =>
   rw [e]
   dsimp only
   cases hb:pd1.all (again σ1) with
   | false=>rw [hb] at h;cases h
   | true =>
    rw [hb] at h
    simp only [cond_true] at h
    refine ⟨rfl,?_⟩
    split at h
    ·next tm2 e2=>rw [e2];cases h;exact hq
    ·cases h
  ·cases h
 | .act qs x r,σ,σ',res,pd,tm',Q,h,hq=>by
  unfold yL at h
  unfold TF
  split at h
  ·next σ1 res1 pd1 e =>
   rw [e]
   dsimp only
   cases hb:pd1.all (again σ1) with
   | false=>rw [hb] at h;cases h
   | true =>
    rw [hb] at h
    simp only [cond_true] at h
    refine ⟨rfl,?_⟩
    split at h
    ·next tm2 e2 =>
     rw [e2]
     dsimp only
     split at h
     ·next v σ2 e3=>exact aec e3 (aed h hq)
     ·cases h
    ·cases h
  ·cases h
end
section
variable (E:Env) (tm:Tr V) (σ:St) (Q:AX→Tr V→St→Prop)
theorem al8 (l:List AO):bM E (.ops l) tm σ Q=wpOps E l tm σ fun tm' σ'=>Q .normal tm' σ':=by
 refine propext ⟨?_,ahC⟩
 rintro ⟨n,e,tm',σ',h,hq⟩
 cases n with
 | zero=>simp only [exec,reduceCtorEq] at h
 | succ n =>
  simp only [exec,SY] at h
  split at h
  ·next e2=>cases h;exact TV e2 hq
  ·cases h
theorem apD (d:Dr) (pt:List (List Nat)) (ds:List Nat):bM E (.drawn d pt ds) tm σ Q=TF E pt tm (WU tm ds) d σ [] [] fun tm' σ'=>Q .normal tm' σ':=by
 refine propext ⟨?_,al7⟩
 rintro ⟨n,e,tm',σ',h,hq⟩
 cases n with
 | zero=>simp only [exec,reduceCtorEq] at h
 | succ n =>
  simp only [exec,xDr,SY,ER] at h
  split at h
  ·next e2=>cases h;exact aed e2 hq
  ·cases h
theorem seq_eq (a b:AC):bM E (.seq a b) tm σ Q=bM E a tm σ (PW E b Q):=by
 refine propext ⟨?_,run_seq⟩
 rintro ⟨n,e,tm',σ',h,hq⟩
 cases n with
 | zero=>simp only [exec,reduceCtorEq] at h
 | succ n =>
  rw [exec] at h
  cases hx:exec E n a tm σ with
  | none=>rw [hx] at h;cases h
  | some q =>
   rw [hx] at h
   obtain ⟨e1,EI,σ1⟩:=q
   refine ⟨n,e1,EI,σ1,hx,?_⟩
   cases e1 with
   | normal=>exact ⟨n,e,tm',σ',h,hq⟩
   | exit i=>cases h;exact hq
   | ret=>cases h;exact hq
theorem aee (i:Nat) (a:AC):bM E (.block i a) tm σ Q=bM E a tm σ (adB i Q):=by
 refine propext ⟨?_,Aa⟩
 rintro ⟨n,e,tm',σ',h,hq⟩
 cases n with
 | zero=>simp only [exec,reduceCtorEq] at h
 | succ n =>
  rw [exec] at h
  cases hx:exec E n a tm σ with
  | none=>rw [hx] at h;cases h
  | some q =>
   rw [hx] at h
   obtain ⟨e1,EI,σ1⟩:=q
   refine ⟨n,e1,EI,σ1,hx,?_⟩
   cases e1 with
   | normal=>cases h;exact hq
   | exit j=>cases h;exact hq
   | ret=>cases h;exact hq
theorem aii:bM E .skip tm σ Q=Q .normal tm σ:=by
 refine propext ⟨?_,TB⟩
 rintro ⟨n,e,tm',σ',h,hq⟩
 cases n with
 | zero=>simp only [exec,reduceCtorEq] at h
 | succ n=>rw [exec] at h;cases h;exact hq
theorem aij (i:Nat):bM E (.exit i) tm σ Q=Q (.exit i) tm σ:=by
 refine propext ⟨?_,adz⟩
 rintro ⟨n,e,tm',σ',h,hq⟩
 cases n with
 | zero=>simp only [exec,reduceCtorEq] at h
 | succ n=>rw [exec] at h;cases h;exact hq
theorem al9:bM E .ret tm σ Q=Q .ret tm σ:=by
 refine propext ⟨?_,ahA⟩
 rintro ⟨n,e,tm',σ',h,hq⟩
 cases n with
 | zero=>simp only [exec,reduceCtorEq] at h
 | succ n=>rw [exec] at h;cases h;exact hq
def ifV (v:V) (P:Bool→Prop):Prop:=match v with|.c (.bool t)=>P t|_=>False
theorem aik (x:O) (a b:AC):bM E (.cond x a b) tm σ Q=ifV (x.ev tm) fun t=>bM E (bif t then a else b) tm σ Q:=by
 refine propext ⟨?_,fun h=>?_⟩
 ·rintro ⟨n,e,tm',σ',h,hq⟩
  cases n with
  | zero=>simp only [exec,reduceCtorEq] at h
  | succ n =>
   simp only [exec,YH] at h
   split at h
   ·next t e=>rw [e];exact ⟨n,_,_,_,h,hq⟩
   ·cases h
 ·unfold ifV at h
  split at h
  ·next t e=>exact adA e h
  ·exact h.elim
theorem ama (a b:AC):bM E (bif true then a else b) tm σ Q=bM E a tm σ Q:=rfl
theorem amb (a b:AC):bM E (bif false then a else b) tm σ Q=bM E b tm σ Q:=rfl
theorem ail (a b:AC):bM E (bif !true then a else b) tm σ Q=bM E b tm σ Q:=rfl
theorem ain (a b:AC):bM E (bif !false then a else b) tm σ Q=bM E a tm σ Q:=rfl
theorem aef (n:Nat) (b:AC) (r:List (Nat×Option (Nat×Bool))):bM E (AF.body ⟨n,b,r⟩) tm σ Q=bM E b tm σ Q:=rfl
theorem aeg (P:Bool→Prop):ifV (.c (.bool true)) P=P true:=rfl
theorem abg (P:Bool→Prop):ifV (.c (.bool false)) P=P false:=rfl
theorem aio (b:Bool) (P:Bool→Prop):ifV (.c (.bool (!b))) P=ifV (.c (.bool b)) fun t=>P (!t):=rfl
theorem aI {p:Prop} [Decidable p] {P:Bool→Prop} (h1:p→P true) (h2 : ¬ p→P false):ifV (.c (.bool (decide p))) P:=by
 show P (decide p)
 by_cases h:p
 ·rw [decide_eq_true h];exact h1 h
 ·rw [decide_eq_false h];exact h2 h
def tick:Prop:=∀ n:Nat,n=n
theorem abh:tick=True:=propext ⟨fun _=>trivial,fun _ _=>rfl⟩
@[congr] theorem aok {z:Prop} {v v' : V} {P:Bool→Prop} (hz:tick=z) (h:v=v'):ifV v P=ifV v' P:=by rw [h]
@[congr] theorem aol {z:Prop} {v v' : Option V} {P:V→Prop} (hz:tick=z) (h:v=v'):EP v P=EP v' P:=by rw [h]
@[congr] theorem amc {z:Prop} {c:AC} {tm tm' : Tr V} {σ σ' : St} {Q:AX→Tr V→St→Prop} (hz:tick=z) (h:tm=tm') (h2:σ=σ'):bM E c tm σ Q=bM E c tm' σ' Q:=by rw [h,h2]
@[congr] theorem akl {z:Prop} {c:List AO} {tm tm' : Tr V} {σ σ' : St} {Q:Tr V→St→Prop} (hz:tick=z) (h:tm=tm') (h2:σ=σ'):wpOps E c tm σ Q=wpOps E c tm' σ' Q:=by rw [h,h2]
@[congr] theorem aom {z:Prop} {c:AO} {tm tm' : Tr V} {σ σ' : St} {Q:V→St→Prop} (hz:tick=z) (h:tm=tm') (h2:σ=σ'):wpG E c tm σ Q=wpG E c tm' σ' Q:=by rw [h,h2]
@[congr] theorem amd {z:Prop} {c:qL} {tm tm' : Tr V} {σ σ' : St} {Q:V→St→Prop} (hz:tick=z) (h:tm=tm') (h2:σ=σ'):wpOp E c tm σ Q=wpOp E c tm' σ' Q:=by rw [h,h2]
@[congr] theorem akm {z:Prop} {f:Nat} {a a' : List V} {σ σ' : St} {Q:V→St→Prop} (hz:tick=z) (h:a=a') (h2:σ=σ'):aO E f a σ Q=aO E f a' σ' Q:=by rw [h,h2]
@[congr] theorem aon {z:Prop} {bZ bf:Tr V} {qs:List DO} {σ σ' : St} {res res' : List Rs} {pd pd' : List iD} {K:St→List Rs→List iD→Prop} (hz:tick=z) (h2:σ=σ') (h3:res=res') (h4:pd=pd'):qM bZ bf qs σ res pd K=qM bZ bf qs σ' res' pd' K:=by rw [h2,h3,h4]
@[congr] theorem aoo {z:Prop} {pt:List (List Nat)} {bZ bf:Tr V} {d:Dr} {σ σ' : St} {res res' : List Rs} {pd pd' : List iD} {K:Tr V→St→Prop} (hz:tick=z) (h2:σ=σ') (h3:res=res') (h4:pd=pd'):TF E pt bZ bf d σ res pd K=TF E pt bZ bf d σ' res' pd' K:=by rw [h2,h3,h4]
@[congr] theorem aop {z:Prop} {σ σ' : St} {pd pd' : List iD} (hz:tick=z) (h:σ=σ') (h2:pd=pd'):agn σ pd=agn σ' pd':=by rw [h,h2]
@[congr] theorem ame {z:Prop} {i i' : Nat} {o:AO} {tm:Tr V} {v:V} {g:Bool} {nm:Option Nat} (hz:tick=z) (h:i=i'):iD.mk i o tm v g nm=iD.mk i' o tm v g nm:=by rw [h]
@[congr] theorem akn {z:Prop} {σ σ' : St} {p:iD} (hz:tick=z) (h:σ=σ'):again σ p=again σ' p:=by rw [h]
@[congr] theorem aoq {z:Prop} {bZ bf:Tr V} {res:List Rs} {us us' os:List Nat} (hz:tick=z) (h:us=us'):Jq bZ bf res us os=Jq bZ bf res us' os:=by rw [h]
@[congr] theorem amf {z:Prop} {bf:Tr V} {res:List Rs} {us us' : List Nat} (hz:tick=z) (h:us=us'):Ew bf res us=Ew bf res us':=by rw [h]
@[congr] theorem aor {z:Prop} {res:List Rs} {u u' : Nat} (hz:tick=z) (h:u=u'):fnd res u=fnd res u':=by rw [h]
@[congr] theorem ako {z:Prop} {bZ tm:Tr V} {os os' : List Nat} (hz:tick=z) (h:os=os'):xW bZ tm os=xW bZ tm os':=by rw [h]
@[congr] theorem amg {z:Prop} {g:Option (Nat×Bool)} {tm:Tr V} {A B:Prop} (hz:tick=z):yt g tm A B=yt g tm A B:=rfl
@[congr] theorem aot {z:Prop} {v v' : V} {b:Bool} {A B:Prop} (hz:tick=z) (h:v=v'):gsV v b A B=gsV v' b A B:=by rw [h]
@[congr] theorem apE {z:Prop} {g:Option (Nat×Bool)} {bZ bf:Tr V} {res:List Rs} {us os:List Nat} {σ:St} {pd:List iD} {i:Nat} {d:Option Nat} {op:qL} {l:List DO} {K:St→List Rs→List iD→Prop} (hz:tick=z):qR g bZ bf res us os σ pd i d op l K=qR g bZ bf res us os σ pd i d op l K:=rfl
theorem aip (E:Env) (d:Option Nat) (g:Option (Nat×Bool)) (op:qL) (tm:Tr V) (σ:St) (K:V→St→Prop):wpG E ⟨d,g,op⟩ tm σ K=yt g tm (wpOp E op tm σ K) (K .tnil σ):=rfl
theorem amh (x:O) (K:V→St→Prop):wpOp E (.mov x) tm σ K=EP (some (x.ev tm)) fun v=>K v σ:=rfl
theorem ami (b:AC):PW E b Q .normal tm σ=bM E b tm σ Q:=rfl
theorem amj (b:AC) (i:Nat):PW E b Q (.exit i) tm σ=Q (.exit i) tm σ:=rfl
theorem amk (b:AC):PW E b Q .ret tm σ=Q .ret tm σ:=rfl
theorem aml (i:Nat):adB i Q .normal tm σ=Q .normal tm σ:=rfl
theorem amm (i j:Nat):adB i Q (.exit j) tm σ=Q (bif Nat.beq j i then .normal else .exit j) tm σ:=rfl
theorem amn (i:Nat):adB i Q .ret tm σ=Q .ret tm σ:=rfl
variable (I:Nat→Tr V→St→Prop) (m:Nat) (res:List (Nat×Option (Nat×Bool))) (K:V→St→Prop)
theorem amo:ahB I m Q .normal tm σ = ∃ m',m' < m∧I m' tm σ:=rfl
theorem amq (i:Nat):ahB I m Q (.exit i) tm σ=Q (.exit i) tm σ:=rfl
theorem amr:ahB I m Q .ret tm σ=Q .ret tm σ:=rfl
theorem aiq:aaQ res K .normal tm σ=EP (result tm σ res) fun v=>K v σ:=by
 unfold aaQ EP
 cases hr:result tm σ res <;> simp [hr]
theorem ams:aaQ res K .ret tm σ=EP (result tm σ res) fun v=>K v σ:=by
 unfold aaQ EP
 cases hr:result tm σ res <;> simp [hr]
end
theorem amu (p q:Rat):decide (lY p q<0)=decide (p<q):=by
 by_cases h:p<q
 ·rw [decide_eq_true h,decide_eq_true];exact xq.mpr h
 ·rw [decide_eq_false h,decide_eq_false];exact fun e=>h (xq.mp e)
theorem aeh (tm:Tr V) (d:Nat) (v:V):Tr.get (Ap tm (some d) v) d=some v:=by unfold Ap;dsimp only;rw [Tr.lN,if_pos rfl]
theorem amv (tm:Tr V) (d j:Nat) (v:V) (h:j≠d):Tr.get (Ap tm (some d) v) j=Tr.get tm j:=by
 unfold Ap
 dsimp only
 rw [Tr.lN,if_neg h]
theorem WY (tm:Tr V) (σ:St):mV tm σ []=some .tnil:=rfl
theorem aei (tm:Tr V) (σ:St) (t:Nat) (r:List (Nat×Option (Nat×Bool))):mV tm σ ((t,none)::r)=match tm.get t,mV tm σ r with|some v,some w=>some (.cZ v w)|_,_=>none:=rfl
theorem aej (tm:Tr V) (σ:St) (t n:Nat) (g:Bool) (r:List (Nat×Option (Nat×Bool))):mV tm σ ((t,some (n,g))::r)=match (match tm.aj t with|.c (.ptr b o)=>ld σ.h b o n g|_=>none),mV tm σ r with|some v,some w=>some (.cZ v w)|_,_=>none:=rfl
theorem Fr.new1 {σ:St} {h:Tr Bk} {n:Nat} {k:Bk} (hf:Fr σ ⟨h,n⟩):Fr σ ⟨hset h n k,n+1⟩:=Fr.new hf k
theorem Fr.set1 {σ:St} {h:Tr Bk} {n b:Nat} {k:Bk} (hf:Fr σ ⟨h,n⟩) (h1:σ.ah≤b) (h2:b<n):Fr σ ⟨hset h b k,n⟩:=Fr.set hf h1 h2 k
theorem au {h:Tr Bk} {b:Nat} {k:Bk} (e:h b=some k) (o n:Nat) (g:Bool):ld h b o n g=bif k.rd then yw k.cells o n g else none:=by unfold ld;rw [e]
theorem aX {h:Tr Bk} {b:Nat} {k:Bk} (e:h b=some k) (o:Nat) (vs:List B):sto h b o vs=match bif k.pl then uT k.cells o vs else none with|some l=>some (hset h b ⟨l,k.opn⟩)|none=>none:=by unfold sto;rw [e];rfl
def plo (o:Option (Nat×Nat)):Bool:=match o with|some (0,_)=>false|_=>true
def rdo (o:Option (Nat×Nat)):Bool:=match o with|some (0,t)=>Nat.beq t 1|_=>true
theorem amw (k:Bk):k.pl=plo k.opn:=rfl
theorem P6 (k:Bk):k.rd=rdo k.opn:=rfl
theorem aek:plo none=true:=rfl
theorem ael:rdo none=true:=rfl
theorem apG (e t:Nat) (h:e≠0):plo (some (e,t))=true:=by cases e with|zero=>exact (h rfl).elim|succ e=>rfl
theorem YT (e t:Nat) (h:e≠0):rdo (some (e,t))=true:=by cases e with|zero=>exact (h rfl).elim|succ e=>rfl
theorem apI:rdo (some (0,1))=true:=rfl
theorem aem (k:IntKind) (n:Int):B.kn (.int k n)=true:=rfl
theorem xG (b:Bool):B.kn (.bool b)=true:=rfl
theorem Bo (s:ByteArray):B.kn (.str s)=true:=rfl
theorem amx (b o:Nat):B.kn (.ptr b o)=true:=rfl
theorem air:B.kn .Px=true:=rfl
theorem apJ (b o n:Nat) (c:Cap):B.kn (.sl b o n c)=true:=rfl
theorem ais:B.kn .aY=true:=rfl
theorem apL (b:Nat):B.kn (.mp b)=true:=rfl
theorem HL.kn {h:Tr Bk} {e:Nat} {v:B} {n:Nat} {G:Nat→List B} (hl:HL h e v n G):v.kn=true:=by
 rcases hl with ⟨-,rfl⟩|⟨b,o,c,rfl,-⟩ <;> rfl
theorem HC.kn {h:Tr Bk} {v:B} {n:Nat} {G:Nat→B} (hl:HC h v n G):v.kn=true:=by
 rcases hl with ⟨-,rfl⟩|⟨b,o,c,rfl,-⟩ <;> rfl
theorem apO (x:B) (l:List B) (o n:Nat):yw (x::l) o n true=bif Nat.beq (((x::l).drop o).take n).length n && (((x::l).drop o).take n).all B.kn then some (.agg (((x::l).drop o).take n)) else none:=rfl
theorem apP (x:B) (l:List B) (o n:Nat):yw (x::l) o n false=match (x::l).drop o with|x::_=>bif x.kn then some (.c x) else none|[]=>none:=rfl
theorem apQ (x:B) (l vs:List B):uT (x::l) 0 vs=bif Nat.ble vs.length (x::l).length then some (vs ++ (x::l).drop vs.length) else none:=by rw [uT]
theorem apS (x:B) (l:List B) (o:Nat) (vs:List B):uT (x::l) (o+1) vs=match uT l o vs with|some r=>some (x::r)|none=>none:=by rw [uT];rfl
theorem aen (a b:Nat):(Int.ofNat a=Int.ofNat b)=(a=b):=propext ⟨Int.ofNat.inj,fun e=>by rw [e]⟩
theorem eq_neg (a b:Nat):(Int.ofNat a=Int.negSucc b)=False:=by simp
theorem apU [h:Decidable True] : @decide True h=true:=by simp
theorem apV [h:Decidable False] : @decide False h=false:=by simp
attribute [go_sem] abh ail ain ama amb aef aa6 wpOps_cons adL alA o_load ahL ahM ahN alB aph alC alD alE alF apj apk apl apm apn apo apq alG alH apr aps ahO ahP alI apu apt apv ahQ uU aay apw ahK aa5 alJ ahR apx alK Df rep apy ahS alL arU arV aaU ahI aaV aaW aaX aaY aaZ aa0 aa1 aa2 aa3 V.cells ahJ apg adK alz aA arW arX List.all_cons List.all_nil Bool.and_true Bool.true_and List.drop_succ_cons List.drop_zero List.take_succ_cons List.take_zero List.length_cons List.length_nil Nat.reduceAdd Nat.zero_add Nat.add_zero YP NS kX FZ ak List.append_nil List.nil_append List.cons_append List.map_cons List.map_nil result adJ aP ahZ ah0 ahV alT ah3 ah5 adV adZ ad2 alV alX alZ ad4 ad6 al1 al3 ah6 ad8 ah8 al5 aea aia aic abb ahW ahX alM adO aa7 adP ahT adQ aa8 WV adR aa9 adN ahY adS alU ah4 adW ad1 ad3 alW alY al0 ad5 ad7 al2 al4 ah7 ad9 ah9 al6 aeb aib aie WX TU abe abf ah1 apz WW abd List.contains_cons List.contains_nil Nat.reduceBEq Bool.or_false Bool.or_true Bool.false_or Bool.true_or cond_true cond_false List.getD_cons_zero List.getD_cons_succ true_and and_true aip alN alO alP alQ alR alS ahU apC ah2 amh al8 apD seq_eq aee aii aij al9 aik aeg abg aio ami amj amk aml amm amn amo amq amr aiq ams amu aem xG Bo amx air apJ ais apL apO apP apQ apS aen eq_neg apU apV amw P6 aek ael apG YT apI aeh amv WY aei aej apb WS WT adH aaS apc aly ape TM adI aaT apf ahH alu TL alv alx ahG
end Go.Proofs.Xe
