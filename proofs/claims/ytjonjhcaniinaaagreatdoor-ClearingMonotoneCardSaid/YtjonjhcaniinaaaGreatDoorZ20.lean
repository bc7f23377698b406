/- The bH: a run as an equation, so that it can be worked out. -/
import Derived.Test.YtjonjhcaniinaaaGreatDoorZ19
import Derived.Attr
set_option linter.unusedSimpArgs false
set_option linter.unusedVariables false
namespace Go.Proofs.Xe
open Go.RowKit Go.Proofs.Ins
noncomputable def Ui (tm:Tr V):List Nat→Tr V
 | []=>tm
 | d::l=>(Ui tm l).set d none
theorem Dl (tm:Tr V) : ∀ ds,vG tm ds=some (Ui tm ds)
 | []=>rfl
 | d::l=>by
  unfold vG
  rw [Dl tm l]
  rfl
theorem WB (tm:Tr V) (j:Nat) : ∀ ds:List Nat,ds.contains j=false→(Ui tm ds).get j=tm.get j
 | [],_=>rfl
 | d::l,h=>by
  rw [List.contains_cons,Bool.or_eq_false_iff] at h
  show ((Ui tm l).set d none).get j=_
  rw [Tr.jZ,if_neg (by simpa using h.1),WB tm j l h.2]
theorem abp (tm:Tr V) (ds:List Nat) (j:Nat) (h:ds.contains j=false):Tr.aj (Ui tm ds) j=Tr.aj tm j:=by
 unfold Tr.aj
 rw [WB tm j ds h]
def fnd:List Rs→Nat→Option Rs
 | [],_=>none
 | r::l,u=>bif Nat.beq r.i u then some r else fnd l u
theorem P9 (u:Nat) : ∀ l:List Rs,l.find? (fun r=>Nat.beq r.i u)=fnd l u
 | []=>rfl
 | r::l=>by
  rw [List.find?_cons,fnd,P9 u l]
  cases Nat.beq r.i u <;> rfl
noncomputable def tmO:Option (Tr V)→Option Rs→Option (Tr V)
 | some tm,some r=>some (yM tm r.d r.v)
 | _,_=>none
theorem abq (aX:Tr V) (res:List Rs):CV aX res []=some aX:=rfl
theorem YO (aX:Tr V) (res:List Rs) (u:Nat) (us:List Nat):CV aX res (u::us)=tmO (CV aX res us) (fnd res u):=by
 rw [CV,P9]
 cases CV aX res us with
 | none=>rfl
 | some tm =>
  cases fnd res u with
  | none=>rfl
  | some r=>show zo tm r.d r.v=_;rw [Ba];rfl
theorem abr (tm:Tr V) (i:Nat) (d:Option Nat) (v:V):tmO (some tm) (some ⟨i,d,v⟩)=some (yM tm d v):=rfl
theorem afh (i:Nat) (d:Option Nat) (v:V) (l:List Rs):fnd (⟨i,d,v⟩::l) i=some ⟨i,d,v⟩:=by unfold fnd;simp
theorem abt (i u:Nat) (d:Option Nat) (v:V) (l:List Rs) (h:i≠u):fnd (⟨i,d,v⟩::l) u=fnd l u:=by rw [fnd,KI h];rfl
theorem YP (bV tm:Tr V):vW bV tm []=some tm:=rfl
theorem Uj (bV tm:Tr V) (t:Nat) (l:List Nat):vW bV tm (t::l)=match vW bV tm l with|some tm=>some (yM tm (some t) (bV.aj t))|none=>none:=by
 rw [vW]
 cases vW bV tm l with
 | none=>rfl
 | some tm=>show zo tm _ _=_;rw [Ba]
theorem aiW (bV aX:Tr V) (res:List Rs) (us os:List Nat):G8 bV aX res us os=match CV aX res us with|some tm=>vW bV tm os|none=>none:=rfl
theorem abu (aX:Tr V):CW aX []=some aX:=rfl
theorem YR (aX:Tr V) (i:Nat) (d:Option Nat) (v:V) (l:List Rs):CW aX (⟨i,d,v⟩::l)=match CW aX l with|some tm=>some (yM tm d v)|none=>none:=by
 rw [CW]
 cases CW aX l with
 | none=>rfl
 | some tm=>show zo tm _ _=_;rw [Ba]
def wF (g:Option (Nat×Bool)) (tm:Tr V) (A B:Prop):Prop:=match gate g tm with|some true=>A|some false=>B|none=>False
def gsV (v:V) (b:Bool) (A B:Prop):Prop:=match v with|.c (.bool c)=>(bif c == b then A else B)|.tnil=>B|_=>False
theorem aiX (tm:Tr V) (A B:Prop):wF none tm A B=A:=rfl
theorem aiY (t:Nat) (b:Bool) (tm:Tr V) (A B:Prop):wF (some (t,b)) tm A B=gsV (tm.aj t) b A B:=by
 unfold wF gsV gate
 dsimp only
 generalize tm.aj t=v
 rcases v with x|_|_|_|_|_|_ <;> try rfl
 cases x <;> try rfl
 next c=>cases c <;> cases b <;> rfl
theorem aiZ (A B:Prop):gsV (.c (.bool true)) true A B=A:=rfl
theorem ai0 (A B:Prop):gsV (.c (.bool true)) false A B=B:=rfl
theorem ai1 (A B:Prop):gsV (.c (.bool false)) true A B=B:=rfl
theorem ai2 (A B:Prop):gsV (.c (.bool false)) false A B=A:=rfl
theorem afi (b:Bool) (A B:Prop):gsV .tnil b A B=B:=rfl
theorem WC {p:Prop} [Decidable p] {A B:Prop} (h1:p→A) (h2 : ¬ p→B):gsV (.c (.bool (decide p))) true A B:=by
 by_cases h:p
 ·rw [decide_eq_true h];exact h1 h
 ·rw [decide_eq_false h];exact h2 h
theorem Qa {p:Prop} [Decidable p] {A B:Prop} (h1:p→B) (h2 : ¬ p→A):gsV (.c (.bool (decide p))) false A B:=by
 by_cases h:p
 ·rw [decide_eq_true h];exact h1 h
 ·rw [decide_eq_false h];exact h2 h
def oJ (bV aX:Tr V) (qs:List DO) (σ:St) (res:List Rs) (pd:List fZ) (K:St→List Rs→List fZ→Prop):Prop :=
 match pU bV aX qs σ res pd with
 | some (σ,res,pd)=>K σ res pd
 | none=>False
theorem afj (bV aX:Tr V) (σ:St) (res:List Rs) (pd:List fZ) (K:St→List Rs→List fZ→Prop):oJ bV aX [] σ res pd K=K σ res pd:=rfl
section
variable (E:Env) (pt:List (List Nat)) (bV aX:Tr V) (σ:St) (res:List Rs) (pd:List fZ)
theorem lM (i:Nat) (us os:List Nat) (d:Option Nat) (g:Option (Nat×Bool)) (op:oI) (l:List DO) (K:St→List Rs→List fZ→Prop) (h:op.kind = .q) :
  oJ bV aX (⟨i,us,os,⟨d,g,op⟩⟩::l) σ res pd K=match G8 bV aX res us os with
   | some tm=>wF g tm (wpOp E op tm σ fun v _=>oJ bV aX l σ (⟨i,d,v⟩::res) (⟨i,⟨d,g,op⟩,tm,v,true,none⟩::pd) K) (oJ bV aX l σ (⟨i,d,.tnil⟩::res) (⟨i,⟨d,g,op⟩,tm,.tnil,false,none⟩::pd) K)
   | none=>False:=by
 unfold oJ wF
 rw [pU]
 dsimp only
 cases G8 bV aX res us os with
 | none=>rfl
 | some tm =>
  dsimp only
  have hc : ∀ g l,op≠.call g l:=fun g l e=>by rw [e] at h;cases h
  cases gate g tm with
  | none=>rfl
  | some b =>
   cases b with
   | true =>
    dsimp only
    rw [h]
    dsimp only
    rw [iR E tm σ _ h hc]
    unfold Ey
    cases cO op tm σ <;> rfl
   | false =>
    dsimp only
    rw [h]
theorem YS (i:Nat) (us os:List Nat) (d:Option Nat) (g:Option (Nat×Bool)) (z:List B) (l:List DO) (K:St→List Rs→List fZ→Prop) :
  oJ bV aX (⟨i,us,os,⟨d,g,.alloc z⟩⟩::l) σ res pd K=match G8 bV aX res us os with
   | some tm=>wF g tm (oJ bV aX l ⟨hset σ.h σ.ah ⟨z,none⟩,σ.ah+1⟩ (⟨i,d,.c (.ptr σ.ah 0)⟩::res) (⟨i,⟨d,g,.alloc z⟩,tm,.c (.ptr σ.ah 0),true,some σ.ah⟩::pd) K)
    (oJ bV aX l σ (⟨i,d,.tnil⟩::res) (⟨i,⟨d,g,.alloc z⟩,tm,.tnil,false,none⟩::pd) K)
   | none=>False:=by
 unfold oJ wF
 rw [pU]
 dsimp only
 cases G8 bV aX res us os with
 | none=>rfl
 | some tm =>
  dsimp only
  cases gate g tm with
  | none=>rfl
  | some b =>
   cases b with
   | true =>
    dsimp only [oI.kind,jG]
    rw [jH]
   | false=>rfl
theorem afk (i:Nat) (us os:List Nat) (d:Option Nat) (g:Option (Nat×Bool)) (x:O) (l:List DO) (K:St→List Rs→List fZ→Prop) :
  oJ bV aX (⟨i,us,os,⟨d,g,.box x⟩⟩::l) σ res pd K=match G8 bV aX res us os with
   | some tm=>wF g tm (match (x.ev tm).cells with
    | some z=>oJ bV aX l ⟨hset σ.h σ.ah ⟨z,none⟩,σ.ah+1⟩ (⟨i,d,.c (.ptr σ.ah 0)⟩::res) (⟨i,⟨d,g,.box x⟩,tm,.c (.ptr σ.ah 0),true,some σ.ah⟩::pd) K
    | none=>False) (oJ bV aX l σ (⟨i,d,.tnil⟩::res) (⟨i,⟨d,g,.box x⟩,tm,.tnil,false,none⟩::pd) K)
   | none=>False:=by
 unfold oJ wF
 rw [pU]
 dsimp only
 cases G8 bV aX res us os with
 | none=>rfl
 | some tm =>
  dsimp only
  cases gate g tm with
  | none=>rfl
  | some b =>
   cases b with
   | true =>
    dsimp only [oI.kind,jG]
    cases (x.ev tm).cells with
    | none=>rfl
    | some z=>dsimp only;rw [jH]
   | false=>rfl
theorem afl (i:Nat) (us os:List Nat) (d:Option Nat) (g:Option (Nat×Bool)) (e n:Nat) (z:List B) (ps:List (Nat×Nat×O)) (l:List DO) (K:St→List Rs→List fZ→Prop) (hn:n*e≤16777216) (hn2:n≤16777216) :
  oJ bV aX (⟨i,us,os,⟨d,g,.bsl e n z ps⟩⟩::l) σ res pd K=match G8 bV aX res us os with
   | some tm=>wF g tm (match rW (rep z n) (ps.map fun p=>(p.1,p.2.1,p.2.2.ev tm)) with
    | some c=>oJ bV aX l ⟨hset σ.h σ.ah ⟨c,none⟩,σ.ah+1⟩ (⟨i,d,.c (.sl σ.ah 0 n (.ex n))⟩::res) (⟨i,⟨d,g,.bsl e n z ps⟩,tm,.c (.sl σ.ah 0 n (.ex n)),true,some σ.ah⟩::pd) K
    | none=>False) (oJ bV aX l σ (⟨i,d,.tnil⟩::res) (⟨i,⟨d,g,.bsl e n z ps⟩,tm,.tnil,false,none⟩::pd) K)
   | none=>False:=by
 unfold oJ wF
 rw [pU]
 dsimp only
 cases G8 bV aX res us os with
 | none=>rfl
 | some tm =>
  dsimp only
  cases gate g tm with
  | none=>rfl
  | some b =>
   cases b with
   | true =>
    dsimp only [oI.kind,jG]
    rw [jQ hn,jQ hn2]
    simp only [cond_true,Bool.and_self]
    cases rW (rep z n) (ps.map fun p=>(p.1,p.2.1,p.2.2.ev tm)) with
    | none=>rfl
    | some c=>dsimp only;rw [jH]
   | false=>rfl
def agn (σ:St):List fZ→Prop
 | []=>True
 | p::l=>again σ p=true∧agn σ l
theorem Nw (σ:St) : ∀ l:List fZ,(l.all (again σ)=true)=agn σ l
 | []=>by simp [agn]
 | p::l=>by rw [List.all_cons,Bool.and_eq_true,Nw σ l];rfl
theorem afm (σ:St):agn σ []=True:=rfl
theorem abv (σ:St) (p:fZ) (l:List fZ):agn σ (p::l)=(again σ p=true∧agn σ l):=rfl
def YT (l:List Nat):List fZ→List fZ
 | []=>[]
 | p::pd=>bif l.contains p.i then YT l pd else p::YT l pd
theorem abw (l:List Nat) : ∀ pd:List fZ,pd.filter (fun p=>!(l.contains p.i))=YT l pd
 | []=>rfl
 | p::pd=>by
  rw [List.filter_cons,YT,abw l pd]
  cases l.contains p.i <;> rfl
theorem afn (qs:List DO) (Q:Tr V→St→Prop):PW E pt bV aX (.fin qs) σ res pd Q=oJ bV aX qs σ res pd fun σ res pd=>agn σ pd∧(match CW aX res with|some tm=>Q tm σ|none=>False):=by
 unfold PW oJ
 cases pU bV aX qs σ res pd with
 | none=>rfl
 | some r=>dsimp only;rw [Nw];rfl
theorem afo (qs:List DO) (i:Nat) (us os:List Nat) (d:Option Nat) (g:Option (Nat×Bool)) (op:oI) (r:Dr) (Q:Tr V→St→Prop) :
  PW E pt bV aX (.act qs ⟨i,us,os,⟨d,g,op⟩⟩ r) σ res pd Q=oJ bV aX qs σ res pd fun σ res pd=>agn σ pd∧(match G8 bV aX res us os with
   | some tm=>wpG E ⟨d,g,op⟩ tm σ fun v σ'=>PW E pt bV aX r σ' (⟨i,d,v⟩::res) (YT (pt.getD i []) pd) Q
   | none=>False):=by
 rw [PW]
 unfold oJ
 cases pU bV aX qs σ res pd with
 | none=>rfl
 | some r=>dsimp only;rw [Nw,abw];rfl
theorem abx (b:B):Yd b b=b.kn:=by
 cases b <;> simp [Yd,B.kn]
 case int k n=>cases n <;> simp [eqI]
 case sl b o n c=>cases c <;> simp [eqC]
theorem Uk : ∀ l:List B,Eu l l=l.all B.kn
 | []=>rfl
 | b::l=>by
  rw [List.all_cons]
  unfold Eu
  rw [abx b,Uk l]
theorem afp (l:List B):eqV (.agg l) (.agg l)=l.all B.kn:=Uk l
theorem amr (b:B):eqV (.c b) (.c b)=b.kn:=abx b
theorem iw (i:Nat) (d:Option Nat) (g9:Option (Nat×Bool)) (op:oI) (tm:Tr V) (v:V) (h:op.kind = .q) (h2:op.looks=false):again σ ⟨i,⟨d,g9,op⟩,tm,v,true,none⟩=true:=by
 unfold again
 dsimp only [cond_true]
 rw [h,h2];rfl
theorem Ul (i:Nat) (d:Option Nat) (g9:Option (Nat×Bool)) (n:Nat) (g:Bool) (x:O) (tm:Tr V) (v:V):again σ ⟨i,⟨d,g9,.load n g x⟩,tm,v,true,none⟩=match (match x.ev tm with|.c (.ptr b o)=>ld σ.h b o n g|_=>none) with|some u=>eqV u v|none=>false:=by
 unfold again
 rfl
theorem Qb (i:Nat) (d:Option Nat) (g9:Option (Nat×Bool)) (z:List B) (tm:Tr V) (v:V) (b:Nat):again σ ⟨i,⟨d,g9,.alloc z⟩,tm,v,true,some b⟩=match σ.h b with|some ⟨c,none⟩=>Eu c z|_=>false:=by
 unfold again
 rfl
theorem YU (i:Nat) (d:Option Nat) (g9:Option (Nat×Bool)) (x:O) (tm:Tr V) (v:V) (b:Nat):again σ ⟨i,⟨d,g9,.box x⟩,tm,v,true,some b⟩=match (x.ev tm).cells with|some z=>(match σ.h b with|some ⟨c,none⟩=>Eu c z|_=>false)|none=>false:=by
 unfold again
 dsimp only [cond_true,oI.kind,jG]
 cases (x.ev tm).cells <;> rfl
theorem YV (i:Nat) (d:Option Nat) (g9:Option (Nat×Bool)) (e n:Nat) (z:List B) (ps:List (Nat×Nat×O)) (tm:Tr V) (v:V) (b:Nat) (hn:n*e≤16777216) (hn2:n≤16777216):again σ ⟨i,⟨d,g9,.bsl e n z ps⟩,tm,v,true,some b⟩=match rW (rep z n) (ps.map fun p=>(p.1,p.2.1,p.2.2.ev tm)) with|some z=>(match σ.h b with|some ⟨c,none⟩=>Eu c z|_=>false)|none=>false:=by
 unfold again
 dsimp only [cond_true,oI.kind,jG]
 rw [jQ hn,jQ hn2]
 simp only [cond_true,Bool.and_self]
 cases rW (rep z n) (ps.map fun p=>(p.1,p.2.1,p.2.2.ev tm)) <;> rfl
end
theorem afq (σ:St) (i:Nat) (o:AO) (tm:Tr V) (v:V) (nm:Option Nat):again σ ⟨i,o,tm,v,false,nm⟩=true:=rfl
section
def E0:Env:=⟨fun _=>none,fun _ _ _=>none⟩
variable (bV aX tm:Tr V) (σ:St) (res:List Rs) (pd:List fZ) (i:Nat) (us os:List Nat) (d:Option Nat) (g9:Option (Nat×Bool)) (l:List DO) (K:St→List Rs→List fZ→Prop) (v:V)
def qR (g:Option (Nat×Bool)) (bV aX:Tr V) (res:List Rs) (us os:List Nat) (σ:St) (pd:List fZ) (i:Nat) (d:Option Nat) (op:oI) (l:List DO) (K:St→List Rs→List fZ→Prop):Prop:=match G8 bV aX res us os with
 | some tm=>wF g tm (wpOp E0 op tm σ fun v _=>oJ bV aX l σ (⟨i,d,v⟩::res) (⟨i,⟨d,g,op⟩,tm,v,true,none⟩::pd) K) (oJ bV aX l σ (⟨i,d,.tnil⟩::res) (⟨i,⟨d,g,op⟩,tm,.tnil,false,none⟩::pd) K)
 | none=>False
theorem ams (g:Option (Nat×Bool)) (bV aX:Tr V) (res:List Rs) (us os:List Nat) (σ:St) (pd:List fZ) (i:Nat) (d:Option Nat) (op:oI) (l:List DO) (K:St→List Rs→List fZ→Prop):qR g bV aX res us os σ pd i d op l K=match G8 bV aX res us os with
 | some tm=>wF g tm (wpOp E0 op tm σ fun v _=>oJ bV aX l σ (⟨i,d,v⟩::res) (⟨i,⟨d,g,op⟩,tm,v,true,none⟩::pd) K) (oJ bV aX l σ (⟨i,d,.tnil⟩::res) (⟨i,⟨d,g,op⟩,tm,.tnil,false,none⟩::pd) K)
 | none=>False:=rfl
theorem ai3 (x:O):oJ bV aX (⟨i,us,os,⟨d,g9,.mov x⟩⟩::l) σ res pd K=qR g9 bV aX res us os σ pd i d (.mov x) l K:=lM E0 _ _ _ _ _ _ _ _ _ _ _ _ _ rfl
theorem ai4 (x:O):again σ ⟨i,⟨d,g9,.mov x⟩,tm,v,true,none⟩=true:=iw _ _ _ _ _ _ _ rfl rfl
theorem afr (c a b:O):oJ bV aX (⟨i,us,os,⟨d,g9,.pick c a b⟩⟩::l) σ res pd K=qR g9 bV aX res us os σ pd i d (.pick c a b) l K:=lM E0 _ _ _ _ _ _ _ _ _ _ _ _ _ rfl
theorem afs (c a b:O):again σ ⟨i,⟨d,g9,.pick c a b⟩,tm,v,true,none⟩=true:=iw _ _ _ _ _ _ _ rfl rfl
theorem aft (n:Nat) (g:Bool) (x:O):oJ bV aX (⟨i,us,os,⟨d,g9,.load n g x⟩⟩::l) σ res pd K=qR g9 bV aX res us os σ pd i d (.load n g x) l K:=lM E0 _ _ _ _ _ _ _ _ _ _ _ _ _ rfl
theorem aby (n:Nat) (x:O):oJ bV aX (⟨i,us,os,⟨d,g9,.wU n x⟩⟩::l) σ res pd K=qR g9 bV aX res us os σ pd i d (.wU n x) l K:=lM E0 _ _ _ _ _ _ _ _ _ _ _ _ _ rfl
theorem abz (n:Nat) (x:O):again σ ⟨i,⟨d,g9,.wU n x⟩,tm,v,true,none⟩=true:=iw _ _ _ _ _ _ _ rfl rfl
theorem abA (o n:Nat) (g:Bool) (x:O):oJ bV aX (⟨i,us,os,⟨d,g9,.field o n g x⟩⟩::l) σ res pd K=qR g9 bV aX res us os σ pd i d (.field o n g x) l K:=lM E0 _ _ _ _ _ _ _ _ _ _ _ _ _ rfl
theorem abB (o n:Nat) (g:Bool) (x:O):again σ ⟨i,⟨d,g9,.field o n g x⟩,tm,v,true,none⟩=true:=iw _ _ _ _ _ _ _ rfl rfl
theorem abC (e:Nat) (x j:O):oJ bV aX (⟨i,us,os,⟨d,g9,.yX e x j⟩⟩::l) σ res pd K=qR g9 bV aX res us os σ pd i d (.yX e x j) l K:=lM E0 _ _ _ _ _ _ _ _ _ _ _ _ _ rfl
theorem abD (e:Nat) (x j:O):again σ ⟨i,⟨d,g9,.yX e x j⟩,tm,v,true,none⟩=true:=iw _ _ _ _ _ _ _ rfl rfl
theorem ai5 (n:Nat) (x:O):oJ bV aX (⟨i,us,os,⟨d,g9,.ext n x⟩⟩::l) σ res pd K=qR g9 bV aX res us os σ pd i d (.ext n x) l K:=lM E0 _ _ _ _ _ _ _ _ _ _ _ _ _ rfl
theorem ai6 (n:Nat) (x:O):again σ ⟨i,⟨d,g9,.ext n x⟩,tm,v,true,none⟩=true:=iw _ _ _ _ _ _ _ rfl rfl
theorem ai7 (b:BinOp) (x y:O):oJ bV aX (⟨i,us,os,⟨d,g9,.bin b x y⟩⟩::l) σ res pd K=qR g9 bV aX res us os σ pd i d (.bin b x y) l K:=lM E0 _ _ _ _ _ _ _ _ _ _ _ _ _ rfl
theorem ai8 (b:BinOp) (x y:O):again σ ⟨i,⟨d,g9,.bin b x y⟩,tm,v,true,none⟩=true:=iw _ _ _ _ _ _ _ rfl rfl
theorem ai9 (p:Bool) (x y:O):oJ bV aX (⟨i,us,os,⟨d,g9,.eqb p x y⟩⟩::l) σ res pd K=qR g9 bV aX res us os σ pd i d (.eqb p x y) l K:=lM E0 _ _ _ _ _ _ _ _ _ _ _ _ _ rfl
theorem aja (p:Bool) (x y:O):again σ ⟨i,⟨d,g9,.eqb p x y⟩,tm,v,true,none⟩=true:=iw _ _ _ _ _ _ _ rfl rfl
theorem abE (p:Bool) (x y:O):oJ bV aX (⟨i,us,os,⟨d,g9,.Az p x y⟩⟩::l) σ res pd K=qR g9 bV aX res us os σ pd i d (.Az p x y) l K:=lM E0 _ _ _ _ _ _ _ _ _ _ _ _ _ rfl
theorem abG (p:Bool) (x y:O):again σ ⟨i,⟨d,g9,.Az p x y⟩,tm,v,true,none⟩=true:=iw _ _ _ _ _ _ _ rfl rfl
theorem abH (p:Bool) (x y:O):oJ bV aX (⟨i,us,os,⟨d,g9,.AA p x y⟩⟩::l) σ res pd K=qR g9 bV aX res us os σ pd i d (.AA p x y) l K:=lM E0 _ _ _ _ _ _ _ _ _ _ _ _ _ rfl
theorem abI (p:Bool) (x y:O):again σ ⟨i,⟨d,g9,.AA p x y⟩,tm,v,true,none⟩=true:=iw _ _ _ _ _ _ _ rfl rfl
theorem ajb (k:Nat) (p:Bool) (x:O):oJ bV aX (⟨i,us,os,⟨d,g9,.nil k p x⟩⟩::l) σ res pd K=qR g9 bV aX res us os σ pd i d (.nil k p x) l K:=lM E0 _ _ _ _ _ _ _ _ _ _ _ _ _ rfl
theorem ajc (k:Nat) (p:Bool) (x:O):again σ ⟨i,⟨d,g9,.nil k p x⟩,tm,v,true,none⟩=true:=iw _ _ _ _ _ _ _ rfl rfl
theorem ajd (x:O):oJ bV aX (⟨i,us,os,⟨d,g9,.not x⟩⟩::l) σ res pd K=qR g9 bV aX res us os σ pd i d (.not x) l K:=lM E0 _ _ _ _ _ _ _ _ _ _ _ _ _ rfl
theorem aje (x:O):again σ ⟨i,⟨d,g9,.not x⟩,tm,v,true,none⟩=true:=iw _ _ _ _ _ _ _ rfl rfl
theorem afu (k:IntKind) (x:O):oJ bV aX (⟨i,us,os,⟨d,g9,.conv k x⟩⟩::l) σ res pd K=qR g9 bV aX res us os σ pd i d (.conv k x) l K:=lM E0 _ _ _ _ _ _ _ _ _ _ _ _ _ rfl
theorem afv (k:IntKind) (x:O):again σ ⟨i,⟨d,g9,.conv k x⟩,tm,v,true,none⟩=true:=iw _ _ _ _ _ _ _ rfl rfl
theorem abJ (z:List B) (ps:List (Nat×Nat×O)):oJ bV aX (⟨i,us,os,⟨d,g9,.build z ps⟩⟩::l) σ res pd K=qR g9 bV aX res us os σ pd i d (.build z ps) l K:=lM E0 _ _ _ _ _ _ _ _ _ _ _ _ _ rfl
theorem abK (z:List B) (ps:List (Nat×Nat×O)):again σ ⟨i,⟨d,g9,.build z ps⟩,tm,v,true,none⟩=true:=iw _ _ _ _ _ _ _ rfl rfl
theorem afw (f:Nat) (cs:List O):oJ bV aX (⟨i,us,os,⟨d,g9,.MV f cs⟩⟩::l) σ res pd K=qR g9 bV aX res us os σ pd i d (.MV f cs) l K:=lM E0 _ _ _ _ _ _ _ _ _ _ _ _ _ rfl
theorem afx (f:Nat) (cs:List O):again σ ⟨i,⟨d,g9,.MV f cs⟩,tm,v,true,none⟩=true:=iw _ _ _ _ _ _ _ rfl rfl
theorem ajf (x:O):oJ bV aX (⟨i,us,os,⟨d,g9,.len x⟩⟩::l) σ res pd K=qR g9 bV aX res us os σ pd i d (.len x) l K:=lM E0 _ _ _ _ _ _ _ _ _ _ _ _ _ rfl
theorem ajg (x:O):again σ ⟨i,⟨d,g9,.len x⟩,tm,v,true,none⟩=true:=iw _ _ _ _ _ _ _ rfl rfl
theorem abL (e:Nat) (x:O) (lo hi mx:Option O):oJ bV aX (⟨i,us,os,⟨d,g9,.slice e x lo hi mx⟩⟩::l) σ res pd K=qR g9 bV aX res us os σ pd i d (.slice e x lo hi mx) l K:=lM E0 _ _ _ _ _ _ _ _ _ _ _ _ _ rfl
theorem abM (e:Nat) (x:O) (lo hi mx:Option O):again σ ⟨i,⟨d,g9,.slice e x lo hi mx⟩,tm,v,true,none⟩=true:=iw _ _ _ _ _ _ _ rfl rfl
theorem afy (x:O):oJ bV aX (⟨i,us,os,⟨d,g9,.Jv x⟩⟩::l) σ res pd K=qR g9 bV aX res us os σ pd i d (.Jv x) l K:=lM E0 _ _ _ _ _ _ _ _ _ _ _ _ _ rfl
theorem afz (x:O):again σ ⟨i,⟨d,g9,.Jv x⟩,tm,v,true,none⟩=true:=iw _ _ _ _ _ _ _ rfl rfl
theorem afA (x y:O):oJ bV aX (⟨i,us,os,⟨d,g9,.min2 x y⟩⟩::l) σ res pd K=qR g9 bV aX res us os σ pd i d (.min2 x y) l K:=lM E0 _ _ _ _ _ _ _ _ _ _ _ _ _ rfl
theorem afB (x y:O):again σ ⟨i,⟨d,g9,.min2 x y⟩,tm,v,true,none⟩=true:=iw _ _ _ _ _ _ _ rfl rfl
end
theorem ajh {E:Env} {tm:Tr V} {σ:St} {Q:AX→Tr V→St→Prop} {d:Dr} {pt:List (List Nat)} {ds:List Nat} (h:PW E pt tm (Ui tm ds) d σ [] [] fun tm' σ'=>Q .normal tm' σ'):bY E (.drawn d pt ds) tm σ Q :=
 Yu _ (Dl tm ds) h
section
variable {E:Env}
theorem afC {n:Nat} {op:oI} {tm:Tr V} {σ σ' : St} {v:V} {K:V→St→Prop} (h:kK (fQ E n) op tm σ=some (v,σ')) (hk:K v σ'):wpOp E op tm σ K:=by
 unfold wpOp
 split
 ·next g args =>
  unfold kK at h
  simp only [oI.kind] at h
  split at h
  ·next f a e =>
   unfold Wj at e
   cases hg:g.ev tm with
   | fn f' caps =>
    dsimp only at e
    rw [hg] at e
    obtain ⟨rfl,rfl⟩:=Prod.mk.inj (Option.some.inj e)
    exact ⟨n,v,σ',h,hk⟩
   | _=>dsimp only at e;rw [hg] at e;cases e
  ·cases h
 ·next hne =>
  have e:kK (fun _ _ _=>none) op tm σ=kK (fQ E n) op tm σ:=by
   unfold kK
   cases hk2:op.kind with
   | c=>cases op <;> simp only [oI.kind,reduceCtorEq] at hk2;exact (hne _ _ rfl).elim
   | _=>rfl
  rw [e,h]
  exact hk
theorem abN {n:Nat} {o:AO} {tm:Tr V} {σ σ' : St} {v:V} {K:V→St→Prop} (h:stepG (fQ E n) o tm σ=some (v,σ')) (hk:K v σ'):wpG E o tm σ K:=by
 unfold wpG
 unfold stepG at h
 split at h
 ·next e=>rw [e];exact afC h hk
 ·next e=>rw [e];cases h;exact hk
 ·cases h
theorem Qc {n:Nat} : ∀ {l:List AO} {tm tm' : Tr V} {σ σ' : St} {Q:Tr V→St→Prop},ng (fQ E n) l tm σ=some (tm',σ')→Q tm' σ'→wpOps E l tm σ Q
 | [],_,_,_,_,_,h,hq=>by cases h;exact hq
 | o::l,tm,tm',σ,σ',Q,h,hq=>by
  unfold ng at h
  split at h
  ·next v σ1 e =>
   rw [Ba] at h
   exact abN e (Qc h hq)
  ·cases h
theorem abO {n:Nat} {pt:List (List Nat)} {bV aX:Tr V} : ∀ {d:Dr} {σ σ' : St} {res:List Rs} {pd:List fZ} {tm' : Tr V} {Q:Tr V→St→Prop},wX (fQ E n) pt bV aX d σ res pd=some (tm',σ')→Q tm' σ'→PW E pt bV aX d σ res pd Q
 | .fin qs,σ,σ',res,pd,tm',Q,h,hq=>by
  unfold wX at h
  unfold PW
  split at h
  ·next σ1 res1 pd1 e =>
   rw [e]
   dsimp only
   cases hb:pd1.all (again σ1) with
   | false=>rw [hb] at h;cases h
   | true =>
    rw [hb] at h
    simp only [cond_true] at h
    refine ⟨rfl,?_⟩
    split at h
    ·next tm2 e2=>rw [e2];cases h;exact hq
    ·cases h
  ·cases h
 | .act qs x r,σ,σ',res,pd,tm',Q,h,hq=>by
  unfold wX at h
  unfold PW
  split at h
  ·next σ1 res1 pd1 e =>
   rw [e]
   dsimp only
   cases hb:pd1.all (again σ1) with
   | false=>rw [hb] at h;cases h
   | true =>
    rw [hb] at h
    simp only [cond_true] at h
    refine ⟨rfl,?_⟩
    split at h
    ·next tm2 e2 =>
     rw [e2]
     dsimp only
     split at h
     ·next v σ2 e3=>exact abN e3 (abO h hq)
     ·cases h
    ·cases h
  ·cases h
end
section
variable (E:Env) (tm:Tr V) (σ:St) (Q:AX→Tr V→St→Prop)
theorem aji (l:List AO):bY E (.ops l) tm σ Q=wpOps E l tm σ fun tm' σ'=>Q .normal tm' σ':=by
 refine propext ⟨?_,ae3⟩
 rintro ⟨n,e,tm',σ',h,hq⟩
 cases n with
 | zero=>simp only [exec,reduceCtorEq] at h
 | succ n =>
  simp only [exec,Pv] at h
  split at h
  ·next e2=>cases h;exact Qc e2 hq
  ·cases h
theorem amu (d:Dr) (pt:List (List Nat)) (ds:List Nat):bY E (.drawn d pt ds) tm σ Q=PW E pt tm (Ui tm ds) d σ [] [] fun tm' σ'=>Q .normal tm' σ':=by
 refine propext ⟨?_,ajh⟩
 rintro ⟨n,e,tm',σ',h,hq⟩
 cases n with
 | zero=>simp only [exec,reduceCtorEq] at h
 | succ n =>
  simp only [exec,xDr,Pv,Dl] at h
  split at h
  ·next e2=>cases h;exact abO e2 hq
  ·cases h
theorem seq_eq (a b:AC):bY E (.seq a b) tm σ Q=bY E a tm σ (Ub E b Q):=by
 refine propext ⟨?_,run_seq⟩
 rintro ⟨n,e,tm',σ',h,hq⟩
 cases n with
 | zero=>simp only [exec,reduceCtorEq] at h
 | succ n =>
  rw [exec] at h
  cases hx:exec E n a tm σ with
  | none=>rw [hx] at h;cases h
  | some q =>
   rw [hx] at h
   obtain ⟨e1,Dc,σ1⟩:=q
   refine ⟨n,e1,Dc,σ1,hx,?_⟩
   cases e1 with
   | normal=>exact ⟨n,e,tm',σ',h,hq⟩
   | exit i=>cases h;exact hq
   | ret=>cases h;exact hq
theorem abP (i:Nat) (a:AC):bY E (.block i a) tm σ Q=bY E a tm σ (abf i Q):=by
 refine propext ⟨?_,Dj⟩
 rintro ⟨n,e,tm',σ',h,hq⟩
 cases n with
 | zero=>simp only [exec,reduceCtorEq] at h
 | succ n =>
  rw [exec] at h
  cases hx:exec E n a tm σ with
  | none=>rw [hx] at h;cases h
  | some q =>
   rw [hx] at h
   obtain ⟨e1,Dc,σ1⟩:=q
   refine ⟨n,e1,Dc,σ1,hx,?_⟩
   cases e1 with
   | normal=>cases h;exact hq
   | exit j=>cases h;exact hq
   | ret=>cases h;exact hq
theorem afD:bY E .skip tm σ Q=Q .normal tm σ:=by
 refine propext ⟨?_,PU⟩
 rintro ⟨n,e,tm',σ',h,hq⟩
 cases n with
 | zero=>simp only [exec,reduceCtorEq] at h
 | succ n=>rw [exec] at h;cases h;exact hq
theorem afE (i:Nat):bY E (.exit i) tm σ Q=Q (.exit i) tm σ:=by
 refine propext ⟨?_,abd⟩
 rintro ⟨n,e,tm',σ',h,hq⟩
 cases n with
 | zero=>simp only [exec,reduceCtorEq] at h
 | succ n=>rw [exec] at h;cases h;exact hq
theorem ajj:bY E .ret tm σ Q=Q .ret tm σ:=by
 refine propext ⟨?_,ae1⟩
 rintro ⟨n,e,tm',σ',h,hq⟩
 cases n with
 | zero=>simp only [exec,reduceCtorEq] at h
 | succ n=>rw [exec] at h;cases h;exact hq
def ifV (v:V) (P:Bool→Prop):Prop:=match v with|.c (.bool t)=>P t|_=>False
theorem afF (x:O) (a b:AC):bY E (.cond x a b) tm σ Q=ifV (x.ev tm) fun t=>bY E (bif t then a else b) tm σ Q:=by
 refine propext ⟨?_,fun h=>?_⟩
 ·rintro ⟨n,e,tm',σ',h,hq⟩
  cases n with
  | zero=>simp only [exec,reduceCtorEq] at h
  | succ n =>
   simp only [exec,Wp] at h
   split at h
   ·next t e=>rw [e];exact ⟨n,_,_,_,h,hq⟩
   ·cases h
 ·unfold ifV at h
  split at h
  ·next t e=>exact abe e h
  ·exact h.elim
theorem ajk (a b:AC):bY E (bif true then a else b) tm σ Q=bY E a tm σ Q:=rfl
theorem ajl (a b:AC):bY E (bif false then a else b) tm σ Q=bY E b tm σ Q:=rfl
theorem afG (a b:AC):bY E (bif !true then a else b) tm σ Q=bY E b tm σ Q:=rfl
theorem afH (a b:AC):bY E (bif !false then a else b) tm σ Q=bY E a tm σ Q:=rfl
theorem abQ (n:Nat) (b:AC) (r:List (Nat×Option (Nat×Bool))):bY E (AF.body ⟨n,b,r⟩) tm σ Q=bY E b tm σ Q:=rfl
theorem abR (P:Bool→Prop):ifV (.c (.bool true)) P=P true:=rfl
theorem YW (P:Bool→Prop):ifV (.c (.bool false)) P=P false:=rfl
theorem afI (b:Bool) (P:Bool→Prop):ifV (.c (.bool (!b))) P=ifV (.c (.bool b)) fun t=>P (!t):=rfl
theorem aK {p:Prop} [Decidable p] {P:Bool→Prop} (h1:p→P true) (h2 : ¬ p→P false):ifV (.c (.bool (decide p))) P:=by
 show P (decide p)
 by_cases h:p
 ·rw [decide_eq_true h];exact h1 h
 ·rw [decide_eq_false h];exact h2 h
def tick:Prop:=∀ n:Nat,n=n
theorem YX:tick=True:=propext ⟨fun _=>trivial,fun _ _=>rfl⟩
@[congr] theorem alf {z:Prop} {v v' : V} {P:Bool→Prop} (hz:tick=z) (h:v=v'):ifV v P=ifV v' P:=by rw [h]
@[congr] theorem alg {z:Prop} {v v' : Option V} {P:V→Prop} (hz:tick=z) (h:v=v'):Ey v P=Ey v' P:=by rw [h]
@[congr] theorem ajm {z:Prop} {c:AC} {tm tm' : Tr V} {σ σ' : St} {Q:AX→Tr V→St→Prop} (hz:tick=z) (h:tm=tm') (h2:σ=σ'):bY E c tm σ Q=bY E c tm' σ' Q:=by rw [h,h2]
@[congr] theorem ahz {z:Prop} {c:List AO} {tm tm' : Tr V} {σ σ' : St} {Q:Tr V→St→Prop} (hz:tick=z) (h:tm=tm') (h2:σ=σ'):wpOps E c tm σ Q=wpOps E c tm' σ' Q:=by rw [h,h2]
@[congr] theorem alh {z:Prop} {c:AO} {tm tm' : Tr V} {σ σ' : St} {Q:V→St→Prop} (hz:tick=z) (h:tm=tm') (h2:σ=σ'):wpG E c tm σ Q=wpG E c tm' σ' Q:=by rw [h,h2]
@[congr] theorem ajn {z:Prop} {c:oI} {tm tm' : Tr V} {σ σ' : St} {Q:V→St→Prop} (hz:tick=z) (h:tm=tm') (h2:σ=σ'):wpOp E c tm σ Q=wpOp E c tm' σ' Q:=by rw [h,h2]
@[congr] theorem ahA {z:Prop} {f:Nat} {a a' : List V} {σ σ' : St} {Q:V→St→Prop} (hz:tick=z) (h:a=a') (h2:σ=σ'):aT E f a σ Q=aT E f a' σ' Q:=by rw [h,h2]
@[congr] theorem ali {z:Prop} {bV aX:Tr V} {qs:List DO} {σ σ' : St} {res res' : List Rs} {pd pd' : List fZ} {K:St→List Rs→List fZ→Prop} (hz:tick=z) (h2:σ=σ') (h3:res=res') (h4:pd=pd'):oJ bV aX qs σ res pd K=oJ bV aX qs σ' res' pd' K:=by rw [h2,h3,h4]
@[congr] theorem alj {z:Prop} {pt:List (List Nat)} {bV aX:Tr V} {d:Dr} {σ σ' : St} {res res' : List Rs} {pd pd' : List fZ} {K:Tr V→St→Prop} (hz:tick=z) (h2:σ=σ') (h3:res=res') (h4:pd=pd'):PW E pt bV aX d σ res pd K=PW E pt bV aX d σ' res' pd' K:=by rw [h2,h3,h4]
@[congr] theorem alk {z:Prop} {σ σ' : St} {pd pd' : List fZ} (hz:tick=z) (h:σ=σ') (h2:pd=pd'):agn σ pd=agn σ' pd':=by rw [h,h2]
@[congr] theorem ajo {z:Prop} {i i' : Nat} {o:AO} {tm:Tr V} {v:V} {g:Bool} {nm:Option Nat} (hz:tick=z) (h:i=i'):fZ.mk i o tm v g nm=fZ.mk i' o tm v g nm:=by rw [h]
@[congr] theorem ahB {z:Prop} {σ σ' : St} {p:fZ} (hz:tick=z) (h:σ=σ'):again σ p=again σ' p:=by rw [h]
@[congr] theorem alm {z:Prop} {bV aX:Tr V} {res:List Rs} {us us' os:List Nat} (hz:tick=z) (h:us=us'):G8 bV aX res us os=G8 bV aX res us' os:=by rw [h]
@[congr] theorem ajp {z:Prop} {aX:Tr V} {res:List Rs} {us us' : List Nat} (hz:tick=z) (h:us=us'):CV aX res us=CV aX res us':=by rw [h]
@[congr] theorem aln {z:Prop} {res:List Rs} {u u' : Nat} (hz:tick=z) (h:u=u'):fnd res u=fnd res u':=by rw [h]
@[congr] theorem ahC {z:Prop} {bV tm:Tr V} {os os' : List Nat} (hz:tick=z) (h:os=os'):vW bV tm os=vW bV tm os':=by rw [h]
@[congr] theorem ajq {z:Prop} {g:Option (Nat×Bool)} {tm:Tr V} {A B:Prop} (hz:tick=z):wF g tm A B=wF g tm A B:=rfl
@[congr] theorem alo {z:Prop} {v v' : V} {b:Bool} {A B:Prop} (hz:tick=z) (h:v=v'):gsV v b A B=gsV v' b A B:=by rw [h]
@[congr] theorem amv {z:Prop} {g:Option (Nat×Bool)} {bV aX:Tr V} {res:List Rs} {us os:List Nat} {σ:St} {pd:List fZ} {i:Nat} {d:Option Nat} {op:oI} {l:List DO} {K:St→List Rs→List fZ→Prop} (hz:tick=z):qR g bV aX res us os σ pd i d op l K=qR g bV aX res us os σ pd i d op l K:=rfl
theorem afJ (E:Env) (d:Option Nat) (g:Option (Nat×Bool)) (op:oI) (tm:Tr V) (σ:St) (K:V→St→Prop):wpG E ⟨d,g,op⟩ tm σ K=wF g tm (wpOp E op tm σ K) (K .tnil σ):=rfl
theorem ajr (x:O) (K:V→St→Prop):wpOp E (.mov x) tm σ K=Ey (some (x.ev tm)) fun v=>K v σ:=rfl
theorem ajs (b:AC):Ub E b Q .normal tm σ=bY E b tm σ Q:=rfl
theorem ajt (b:AC) (i:Nat):Ub E b Q (.exit i) tm σ=Q (.exit i) tm σ:=rfl
theorem aju (b:AC):Ub E b Q .ret tm σ=Q .ret tm σ:=rfl
theorem ajv (i:Nat):abf i Q .normal tm σ=Q .normal tm σ:=rfl
theorem ajw (i j:Nat):abf i Q (.exit j) tm σ=Q (bif Nat.beq j i then .normal else .exit j) tm σ:=rfl
theorem ajx (i:Nat):abf i Q .ret tm σ=Q .ret tm σ:=rfl
variable (I:Nat→Tr V→St→Prop) (m:Nat) (res:List (Nat×Option (Nat×Bool))) (K:V→St→Prop)
theorem ajy:ae2 I m Q .normal tm σ = ∃ m',m' < m∧I m' tm σ:=rfl
theorem ajz (i:Nat):ae2 I m Q (.exit i) tm σ=Q (.exit i) tm σ:=rfl
theorem ajA:ae2 I m Q .ret tm σ=Q .ret tm σ:=rfl
theorem afK:Yv res K .normal tm σ=Ey (result tm σ res) fun v=>K v σ:=by
 unfold Yv Ey
 cases hr:result tm σ res <;> simp [hr]
theorem ajB:Yv res K .ret tm σ=Ey (result tm σ res) fun v=>K v σ:=by
 unfold Yv Ey
 cases hr:result tm σ res <;> simp [hr]
end
theorem ajC (p q:Rat):decide (ku p q<0)=decide (p<q):=by
 by_cases h:p<q
 ·rw [decide_eq_true h,decide_eq_true];exact uY.mpr h
 ·rw [decide_eq_false h,decide_eq_false];exact fun e=>h (uY.mp e)
theorem abS (tm:Tr V) (d:Nat) (v:V):Tr.get (yM tm (some d) v) d=some v:=by unfold yM;dsimp only;rw [Tr.jZ,if_pos rfl]
theorem ajD (tm:Tr V) (d j:Nat) (v:V) (h:j≠d):Tr.get (yM tm (some d) v) j=Tr.get tm j:=by
 unfold yM
 dsimp only
 rw [Tr.jZ,if_neg h]
theorem Um (tm:Tr V) (σ:St):kY tm σ []=some .tnil:=rfl
theorem abT (tm:Tr V) (σ:St) (t:Nat) (r:List (Nat×Option (Nat×Bool))):kY tm σ ((t,none)::r)=match tm.get t,kY tm σ r with|some v,some w=>some (.bZ v w)|_,_=>none:=rfl
theorem abU (tm:Tr V) (σ:St) (t n:Nat) (g:Bool) (r:List (Nat×Option (Nat×Bool))):kY tm σ ((t,some (n,g))::r)=match (match tm.aj t with|.c (.ptr b o)=>ld σ.h b o n g|_=>none),kY tm σ r with|some v,some w=>some (.bZ v w)|_,_=>none:=rfl
theorem Fr.new1 {σ:St} {h:Tr Bk} {n:Nat} {k:Bk} (hf:Fr σ ⟨h,n⟩):Fr σ ⟨hset h n k,n+1⟩:=Fr.new hf k
theorem Fr.set1 {σ:St} {h:Tr Bk} {n b:Nat} {k:Bk} (hf:Fr σ ⟨h,n⟩) (h1:σ.ah≤b) (h2:b<n):Fr σ ⟨hset h b k,n⟩:=Fr.set hf h1 h2 k
theorem aA {h:Tr Bk} {b:Nat} {k:Bk} (e:h b=some k) (o n:Nat) (g:Bool):ld h b o n g=bif k.rd then wV k.cells o n g else none:=by unfold ld;rw [e]
theorem bP {h:Tr Bk} {b:Nat} {k:Bk} (e:h b=some k) (o:Nat) (vs:List B):sto h b o vs=match bif k.pl then rU k.cells o vs else none with|some l=>some (hset h b ⟨l,k.opn⟩)|none=>none:=by unfold sto;rw [e];rfl
def plo (o:Option (Nat×Nat)):Bool:=match o with|some (0,_)=>false|_=>true
def rdo (o:Option (Nat×Nat)):Bool:=match o with|some (0,t)=>Nat.beq t 1|_=>true
theorem ajE (k:Bk):k.pl=plo k.opn:=rfl
theorem Ny (k:Bk):k.rd=rdo k.opn:=rfl
theorem abV:plo none=true:=rfl
theorem abW:rdo none=true:=rfl
theorem amw (e t:Nat) (h:e≠0):plo (some (e,t))=true:=by cases e with|zero=>exact (h rfl).elim|succ e=>rfl
theorem WE (e t:Nat) (h:e≠0):rdo (some (e,t))=true:=by cases e with|zero=>exact (h rfl).elim|succ e=>rfl
theorem amx:rdo (some (0,1))=true:=rfl
theorem abX (k:IntKind) (n:Int):B.kn (.int k n)=true:=rfl
theorem vI (b:Bool):B.kn (.bool b)=true:=rfl
theorem zC (s:ByteArray):B.kn (.str s)=true:=rfl
theorem ajF (b o:Nat):B.kn (.ptr b o)=true:=rfl
theorem afL:B.kn .MS=true:=rfl
theorem amy (b o n:Nat) (c:Cap):B.kn (.sl b o n c)=true:=rfl
theorem afM:B.kn .aW=true:=rfl
theorem amA (b:Nat):B.kn (.mp b)=true:=rfl
theorem HL.kn {h:Tr Bk} {e:Nat} {v:B} {n:Nat} {G:Nat→List B} (hl:HL h e v n G):v.kn=true:=by
 rcases hl with ⟨-,rfl⟩|⟨b,o,c,rfl,-⟩ <;> rfl
theorem HC.kn {h:Tr Bk} {v:B} {n:Nat} {G:Nat→B} (hl:HC h v n G):v.kn=true:=by
 rcases hl with ⟨-,rfl⟩|⟨b,o,c,rfl,-⟩ <;> rfl
theorem amB (x:B) (l:List B) (o n:Nat):wV (x::l) o n true=bif Nat.beq (((x::l).drop o).take n).length n && (((x::l).drop o).take n).all B.kn then some (.agg (((x::l).drop o).take n)) else none:=rfl
theorem amC (x:B) (l:List B) (o n:Nat):wV (x::l) o n false=match (x::l).drop o with|x::_=>bif x.kn then some (.c x) else none|[]=>none:=rfl
theorem amD (x:B) (l vs:List B):rU (x::l) 0 vs=bif Nat.ble vs.length (x::l).length then some (vs ++ (x::l).drop vs.length) else none:=by rw [rU]
theorem amE (x:B) (l:List B) (o:Nat) (vs:List B):rU (x::l) (o+1) vs=match rU l o vs with|some r=>some (x::r)|none=>none:=by rw [rU];rfl
theorem abY (a b:Nat):(Int.ofNat a=Int.ofNat b)=(a=b):=propext ⟨Int.ofNat.inj,fun e=>by rw [e]⟩
theorem eq_neg (a b:Nat):(Int.ofNat a=Int.negSucc b)=False:=by simp
theorem amF [h:Decidable True] : @decide True h=true:=by simp
theorem amG [h:Decidable False] : @decide False h=false:=by simp
attribute [go_sem] YX afG afH ajk ajl abQ YM wpOps_cons abn aiK o_load afc afd aiL ama aiM aiN aiO aiP amb amc amd ame amf amg amh aiQ aiR ami amj aiS aml amk amm afe rW Yc amn afb YL aiT aff amo aiU AB rep amq afg aiV aom aon Yz ae9 YB YC YD YE YF YG YH YI YJ V.cells afa al9 abm aiJ au aoo aop List.all_cons List.all_nil Bool.and_true Bool.true_and List.drop_succ_cons List.drop_zero List.take_succ_cons List.take_zero List.length_cons List.length_nil Nat.reduceAdd Nat.zero_add Nat.add_zero WA KI jQ Ea ak List.append_nil List.nil_append List.cons_append List.map_cons List.map_nil result abl aV afn afo afj ai3 afr aft aby abA abC ai5 ai7 ai9 abE abH ajb ajd afu abJ afw ajf abL afy afA YS afk afl aiW abq YO abr afh abt YP Uj abu YR abp afm abv ai4 afs abz abB abD ai6 ai8 aja abG abI ajc aje afv abK afx ajg abM afz afB Ul Qb YU YV afp amr Uk YT List.contains_cons List.contains_nil Nat.reduceBEq Bool.or_false Bool.or_true Bool.false_or Bool.true_or cond_true cond_false List.getD_cons_zero List.getD_cons_succ true_and and_true afJ aiX aiY aiZ ai0 ai1 ai2 afi ams afq ajr aji amu seq_eq abP afD afE ajj afF abR YW afI ajs ajt aju ajv ajw ajx ajy ajz ajA afK ajB ajC abX vI zC ajF afL amy afM amA amB amC amD amE abY eq_neg amF amG ajE Ny abV abW amw WE amx abS ajD Um abT abU al6 Ug Uh abk Yx al7 P8 Yy al8 ae8 aiG P7 aiH aiI ae7
end Go.Proofs.Xe
