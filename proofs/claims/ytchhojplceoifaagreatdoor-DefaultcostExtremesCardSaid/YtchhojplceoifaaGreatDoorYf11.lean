import Derived.Test.YtchhojplceoifaaGreatDoorYf10
import Derived.Attr
set_option linter.all false
namespace Go.Proofs.Xe
open Go.RowKit Go.Proofs.Ins
noncomputable def aaT(tm:Tr V):List Nat->Tr V
 |[]=>tm
 |d::l=>(aaT tm l).set d none
def JO(tm:Tr V):∀ds,BJ tm ds=some (aaT tm ds)
 |[]=>rfl
 |d::l=>by unfold BJ;rw[JO tm l];rfl
theorem acP(tm:Tr V)(j:Nat):∀ds:List Nat,ds.contains j=false->(aaT tm ds).get j=tm.get j
 |[],_=>rfl
 |d::l,h=>by rw[List.contains_cons,Bool.or_eq_false_iff]at h;show((aaT tm l).set d none).get j=_;rw[Tr.vg,ab (by simpa using h.1),acP tm j l h.2]
def ahS(tm:Tr V)(ds:List Nat)(j:Nat)(h:ds.contains j=false):Tr.ah (aaT tm ds) j=Tr.ah tm j:=by grind[Tr.ah,acP]
def fnd:List Rs->Nat->Option Rs
 |[],_=>none
 |r::l,u=>bif Nat.beq r.i u then some r else fnd l u
def XZ(u:Nat):∀l:List Rs,l.find? (λr=>Nat.beq r.i u)=fnd l u
 |[]=>rfl
 |r::l=>by rw[List.find?_cons,fnd,XZ u l];cases Nat.beq r.i u<;>rfl
noncomputable def tmO:Option (Tr V)->Option Rs->Option (Tr V)
 |some tm,some r=>some (FP tm r.d r.v)
 |_,_=>none
def ahT(bV:Tr V)(res:List Rs):JE bV res []=some bV:=rfl
def afc(bV:Tr V)(res:List Rs)(u:Nat)(us:List Nat):JE bV res (u::us)=tmO (JE bV res us) (fnd res u):=by
 rw[JE,XZ];cases JE bV res us with
 |none=>rfl
 |some tm=>
  cases fnd res u with
  |none=>rfl
  |some r=>show JD tm r.d r.v=_;rw[MC];rfl
def ahU(tm:Tr V)(i:Nat)(d:Option Nat)(v:V):tmO (some tm) (some ⟨i,d,v⟩)=some (FP tm d v):=rfl
def amN(i:Nat)(d:Option Nat)(v:V)(l:List Rs):fnd (⟨i,d,v⟩::l) i=some ⟨i,d,v⟩:=by unfold fnd;simp
def ahV(i u:Nat)(d:Option Nat)(v:V)(l:List Rs)(h:i≠u):fnd (⟨i,d,v⟩::l) u=fnd l u:=by grind[fnd,S9]
def afd(dI tm:Tr V):F9 dI tm []=some tm:=rfl
def aaU(dI tm:Tr V)(t:Nat)(l:List Nat):F9 dI tm (t::l)=match F9 dI tm l with|some tm=>some (FP tm (some t) (dI.ah t))|none=>none:=by rfl
def arT(dI bV:Tr V)(res:List Rs)(us os:List Nat):Og dI bV res us os=match JE bV res us with|some tm=>F9 dI tm os|none=>none:=rfl
def ahW(bV:Tr V):Lr bV []=some bV:=rfl
def afe(bV:Tr V)(i:Nat)(d:Option Nat)(v:V)(l:List Rs):Lr bV (⟨i,d,v⟩::l)=match Lr bV l with|some tm=>some (FP tm d v)|none=>none:=by grind[Lr,MC]
def CX(g:Option (Nat×Bool))(tm:Tr V)(A B:Prop):Prop:=match gate g tm with|some true=>A|some false=>B|none=>False
def gsV(v:V)(b:Bool)(A B:Prop):Prop:=match v with|.c (.bool c)=>(bif c==b then A else B)|.tnil=>B|_=>False
def arU(tm:Tr V)(A B:Prop):CX none tm A B=A:=rfl
def arV(t:Nat)(b:Bool)(tm:Tr V)(A B:Prop):CX (some (t,b)) tm A B=gsV (tm.ah t) b A B:=by grind[CX,gsV,gate]
def arW(A B:Prop):gsV (.c (.bool true)) true A B=A:=rfl
def arX(A B:Prop):gsV (.c (.bool true)) false A B=B:=rfl
def arY(A B:Prop):gsV (.c (.bool false)) true A B=B:=rfl
def arZ(A B:Prop):gsV (.c (.bool false)) false A B=A:=rfl
def amO(b:Bool)(A B:Prop):gsV .tnil b A B=B:=rfl
def IK{p:Prop}[Decidable p]{A B:Prop}(h1:p->A)(h2:¬p->B):gsV (.c (.bool (decide p))) true A B:=by
 by_cases h:p
 .rw[be h];exact h1 h
 .rw[az h];exact h2 h
def X0{p:Prop}[Decidable p]{A B:Prop}(h1:p->B)(h2:¬p->A):gsV (.c (.bool (decide p))) false A B:=by
 by_cases h:p
 .rw[be h];exact h1 h
 .rw[az h];exact h2 h
def wz(dI bV:Tr V)(qs:List DO)(σ:St)(res:List Rs)(pd:List iW)(K:St->List Rs->List iW->Prop):Prop:=
 match yU dI bV qs σ res pd with
 |some (σ,res,pd)=>K σ res pd
 |none=>False
def amP(dI bV:Tr V)(σ:St)(res:List Rs)(pd:List iW)(K:St->List Rs->List iW->Prop):wz dI bV [] σ res pd K=K σ res pd:=rfl
section
variable (E:Env) (pt:List (List Nat)) (dI bV:Tr V) (σ:St) (res:List Rs) (pd:List iW)
def qX(i:Nat)(us os:List Nat)(d:Option Nat)(g:Option (Nat×Bool))(op:wS)(l:List DO)(K:St->List Rs->List iW->Prop)(h:op.kind=.q):
  wz dI bV (⟨i,us,os,⟨d,g,op⟩⟩::l) σ res pd K=match Og dI bV res us os with
   |some tm=>CX g tm (wpOp E op tm σ λv _=>wz dI bV l σ (⟨i,d,v⟩::res) (⟨i,⟨d,g,op⟩,tm,v,true,none⟩::pd) K) (wz dI bV l σ (⟨i,d,.tnil⟩::res) (⟨i,⟨d,g,op⟩,tm,.tnil,false,none⟩::pd) K)
   |none=>False:=by
 unfold wz CX
 rw[yU]
 dsimp only
 cases Og dI bV res us os with
 |none=>rfl
 |some tm=>
  dsimp only
  have hc:∀g l,op≠.call g l:=λg l e=>by rw[e]at h;cases h
  grind[iF,H8]
def aff(i:Nat)(us os:List Nat)(d:Option Nat)(g:Option (Nat×Bool))(z:List B)(l:List DO)(K:St->List Rs->List iW->Prop):
  wz dI bV (⟨i,us,os,⟨d,g,.alloc z⟩⟩::l) σ res pd K=match Og dI bV res us os with
   |some tm=>CX g tm (wz dI bV l ⟨hset σ.h σ.aj ⟨z,none⟩,σ.aj+1⟩ (⟨i,d,.c (.ptr σ.aj 0)⟩::res) (⟨i,⟨d,g,.alloc z⟩,tm,.c (.ptr σ.aj 0),true,some σ.aj⟩::pd) K)
    (wz dI bV l σ (⟨i,d,.tnil⟩::res) (⟨i,⟨d,g,.alloc z⟩,tm,.tnil,false,none⟩::pd) K)
   |none=>False:=by
 unfold wz CX
 rw[yU]
 dsimp only
 cases Og dI bV res us os with
 |none=>rfl
 |some tm=>
  grind[wS.kind,oC,lV]
def amQ(i:Nat)(us os:List Nat)(d:Option Nat)(g:Option (Nat×Bool))(x:O)(l:List DO)(K:St->List Rs->List iW->Prop):
  wz dI bV (⟨i,us,os,⟨d,g,.box x⟩⟩::l) σ res pd K=match Og dI bV res us os with
   |some tm=>CX g tm (match(x.ev tm).cells with
    |some z=>wz dI bV l ⟨hset σ.h σ.aj ⟨z,none⟩,σ.aj+1⟩ (⟨i,d,.c (.ptr σ.aj 0)⟩::res) (⟨i,⟨d,g,.box x⟩,tm,.c (.ptr σ.aj 0),true,some σ.aj⟩::pd) K
    |none=>False) (wz dI bV l σ (⟨i,d,.tnil⟩::res) (⟨i,⟨d,g,.box x⟩,tm,.tnil,false,none⟩::pd) K)
   |none=>False:=by
 unfold wz CX
 rw[yU]
 dsimp only
 cases Og dI bV res us os with
 |none=>rfl
 |some tm=>
  grind[wS.kind,oC,lV]
def amR(i:Nat)(us os:List Nat)(d:Option Nat)(g:Option (Nat×Bool))(e n:Nat)(z:List B)(ps:List (Nat×Nat×O))(l:List DO)(K:St->List Rs->List iW->Prop)(hn:n*e<=16777216)(hn2:n<=16777216):
  wz dI bV (⟨i,us,os,⟨d,g,.bsl e n z ps⟩⟩::l) σ res pd K=match Og dI bV res us os with
   |some tm=>CX g tm (match Dq (rep z n) (ps.map λp=>(p.1,p.2.1,p.2.2.ev tm))with
    |some c=>wz dI bV l ⟨hset σ.h σ.aj ⟨c,none⟩,σ.aj+1⟩ (⟨i,d,.c (.sl σ.aj 0 n (.ex n))⟩::res) (⟨i,⟨d,g,.bsl e n z ps⟩,tm,.c (.sl σ.aj 0 n (.ex n)),true,some σ.aj⟩::pd) K
    |none=>False) (wz dI bV l σ (⟨i,d,.tnil⟩::res) (⟨i,⟨d,g,.bsl e n z ps⟩,tm,.tnil,false,none⟩::pd) K)
   |none=>False:=by
 unfold wz CX
 rw[yU]
 dsimp only
 cases Og dI bV res us os with
 |none=>rfl
 |some tm=>
  grind[wS.kind,oC,yj,lV]
def agn(σ:St):List iW->Prop
 |[]=>True
 |p::l=>again σ p=true/\agn σ l
theorem Va(σ:St):∀l:List iW,(l.all (again σ)=true)=agn σ l
 |[]=>by simp[agn]
 |p::l=>by rw[cD,af,Va σ l];rfl
def amS(σ:St):agn σ []=True:=rfl
def ahX(σ:St)(p:iW)(l:List iW):agn σ (p::l)=(again σ p=true/\agn σ l):=rfl
def afg(l:List Nat):List iW->List iW
 |[]=>[]
 |p::pd=>bif l.contains p.i then afg l pd else p::afg l pd
theorem ahY(l:List Nat):∀pd:List iW,pd.filter (λp=>!(l.contains p.i))=afg l pd
 |[]=>rfl
 |p::pd=>by rw[List.filter_cons,afg,ahY l pd];cases l.contains p.i<;>rfl
def amT(qs:List DO)(Q:Tr V->St->Prop):XK E pt dI bV (.fin qs) σ res pd Q=wz dI bV qs σ res pd λσ res pd=>agn σ pd/\(match Lr bV res with|some tm=>Q tm σ|none=>False):=by grind[XK,wz,Va]
def amU(qs:List DO)(i:Nat)(us os:List Nat)(d:Option Nat)(g:Option (Nat×Bool))(op:wS)(r:Dr)(Q:Tr V->St->Prop):
  XK E pt dI bV (.act qs ⟨i,us,os,⟨d,g,op⟩⟩ r) σ res pd Q=wz dI bV qs σ res pd λσ res pd=>agn σ pd/\(match Og dI bV res us os with
   |some tm=>wpG E ⟨d,g,op⟩ tm σ λv σ'=>XK E pt dI bV r σ' (⟨i,d,v⟩::res) (afg (pt.getD i []) pd) Q
   |none=>False):=by
 grind[XK,wz,Va,ahY]
def ahZ(b:B):aeF b b=b.kn:=by
 cases b<;>simp[aeF,B.kn]
 case int k n=>cases n<;>simp[eqI]
 case sl b o n c=>cases c<;>simp[eqC]
def aaV:∀l:List B,Oe l l=l.all B.kn
 |[]=>rfl
 |b::l=>by rw[cD];unfold Oe;rw[ahZ b,aaV l]
def amV(l:List B):eqV (.agg l) (.agg l)=l.all B.kn:=aaV l
def awf(b:B):eqV (.c b) (.c b)=b.kn:=ahZ b
def ji(i:Nat)(d:Option Nat)(g9:Option (Nat×Bool))(op:wS)(tm:Tr V)(v:V)(h:op.kind=.q)(h2:op.looks=false):again σ ⟨i,⟨d,g9,op⟩,tm,v,true,none⟩=true:=by grind[again]
def aaW(i:Nat)(d:Option Nat)(g9:Option (Nat×Bool))(n:Nat)(g:Bool)(x:O)(tm:Tr V)(v:V):again σ ⟨i,⟨d,g9,.load n g x⟩,tm,v,true,none⟩=match(match x.ev tm with|.c (.ptr b o)=>ld σ.h b o n g|_=>none)with|some u=>eqV u v|none=>false:=by rfl
def X3(i:Nat)(d:Option Nat)(g9:Option (Nat×Bool))(z:List B)(tm:Tr V)(v:V)(b:Nat):again σ ⟨i,⟨d,g9,.alloc z⟩,tm,v,true,some b⟩=match σ.h b with|some ⟨c,none⟩=>Oe c z|_=>false:=by rfl
def afh(i:Nat)(d:Option Nat)(g9:Option (Nat×Bool))(e n:Nat)(z:List B)(ps:List (Nat×Nat×O))(tm:Tr V)(v:V)(b:Nat)(hn:n*e<=16777216)(hn2:n<=16777216):again σ ⟨i,⟨d,g9,.bsl e n z ps⟩,tm,v,true,some b⟩=match Dq (rep z n) (ps.map λp=>(p.1,p.2.1,p.2.2.ev tm))with|some z=>(match σ.h b with|some ⟨c,none⟩=>Oe c z|_=>false)|none=>false:=by grind[again,wS.kind,oC,yj]
end
def amW(σ:St)(i:Nat)(o:AO)(tm:Tr V)(v:V)(nm:Option Nat):again σ ⟨i,o,tm,v,false,nm⟩=true:=rfl
section
def E0:Env:=⟨λ_=>none,λ_ _ _=>none⟩
variable (dI bV tm:Tr V) (σ:St) (res:List Rs) (pd:List iW) (i:Nat) (us os:List Nat) (d:Option Nat) (g9:Option (Nat×Bool)) (l:List DO) (K:St→List Rs→List iW→Prop) (v:V)
def qR(g:Option (Nat×Bool))(dI bV:Tr V)(res:List Rs)(us os:List Nat)(σ:St)(pd:List iW)(i:Nat)(d:Option Nat)(op:wS)(l:List DO)(K:St->List Rs->List iW->Prop):Prop:=match Og dI bV res us os with
 |some tm=>CX g tm (wpOp E0 op tm σ λv _=>wz dI bV l σ (⟨i,d,v⟩::res) (⟨i,⟨d,g,op⟩,tm,v,true,none⟩::pd) K) (wz dI bV l σ (⟨i,d,.tnil⟩::res) (⟨i,⟨d,g,op⟩,tm,.tnil,false,none⟩::pd) K)
 |none=>False
def awg(g:Option (Nat×Bool))(dI bV:Tr V)(res:List Rs)(us os:List Nat)(σ:St)(pd:List iW)(i:Nat)(d:Option Nat)(op:wS)(l:List DO)(K:St->List Rs->List iW->Prop):qR g dI bV res us os σ pd i d op l K=match Og dI bV res us os with
 |some tm=>CX g tm (wpOp E0 op tm σ λv _=>wz dI bV l σ (⟨i,d,v⟩::res) (⟨i,⟨d,g,op⟩,tm,v,true,none⟩::pd) K) (wz dI bV l σ (⟨i,d,.tnil⟩::res) (⟨i,⟨d,g,op⟩,tm,.tnil,false,none⟩::pd) K)
 |none=>False:=rfl
def ar0(x:O):wz dI bV (⟨i,us,os,⟨d,g9,.mov x⟩⟩::l) σ res pd K=qR g9 dI bV res us os σ pd i d (.mov x) l K:=qX E0 _ _ _ _ _ _ _ _ _ _ _ _ _ rfl
def ar1(x:O):again σ ⟨i,⟨d,g9,.mov x⟩,tm,v,true,none⟩=true:=ji _ _ _ _ _ _ _ rfl rfl
def amX(c a b:O):wz dI bV (⟨i,us,os,⟨d,g9,.pick c a b⟩⟩::l) σ res pd K=qR g9 dI bV res us os σ pd i d (.pick c a b) l K:=qX E0 _ _ _ _ _ _ _ _ _ _ _ _ _ rfl
def amY(c a b:O):again σ ⟨i,⟨d,g9,.pick c a b⟩,tm,v,true,none⟩=true:=ji _ _ _ _ _ _ _ rfl rfl
def amZ(n:Nat)(g:Bool)(x:O):wz dI bV (⟨i,us,os,⟨d,g9,.load n g x⟩⟩::l) σ res pd K=qR g9 dI bV res us os σ pd i d (.load n g x) l K:=qX E0 _ _ _ _ _ _ _ _ _ _ _ _ _ rfl
def ah0(n:Nat)(x:O):wz dI bV (⟨i,us,os,⟨d,g9,.Dp n x⟩⟩::l) σ res pd K=qR g9 dI bV res us os σ pd i d (.Dp n x) l K:=qX E0 _ _ _ _ _ _ _ _ _ _ _ _ _ rfl
def ah1(n:Nat)(x:O):again σ ⟨i,⟨d,g9,.Dp n x⟩,tm,v,true,none⟩=true:=ji _ _ _ _ _ _ _ rfl rfl
def ah2(o n:Nat)(g:Bool)(x:O):wz dI bV (⟨i,us,os,⟨d,g9,.field o n g x⟩⟩::l) σ res pd K=qR g9 dI bV res us os σ pd i d (.field o n g x) l K:=qX E0 _ _ _ _ _ _ _ _ _ _ _ _ _ rfl
def ah3(o n:Nat)(g:Bool)(x:O):again σ ⟨i,⟨d,g9,.field o n g x⟩,tm,v,true,none⟩=true:=ji _ _ _ _ _ _ _ rfl rfl
def ah4(e:Nat)(x j:O):wz dI bV (⟨i,us,os,⟨d,g9,.F7 e x j⟩⟩::l) σ res pd K=qR g9 dI bV res us os σ pd i d (.F7 e x j) l K:=qX E0 _ _ _ _ _ _ _ _ _ _ _ _ _ rfl
def ah5(e:Nat)(x j:O):again σ ⟨i,⟨d,g9,.F7 e x j⟩,tm,v,true,none⟩=true:=ji _ _ _ _ _ _ _ rfl rfl
def ar2(n:Nat)(x:O):wz dI bV (⟨i,us,os,⟨d,g9,.ext n x⟩⟩::l) σ res pd K=qR g9 dI bV res us os σ pd i d (.ext n x) l K:=qX E0 _ _ _ _ _ _ _ _ _ _ _ _ _ rfl
def ar4(n:Nat)(x:O):again σ ⟨i,⟨d,g9,.ext n x⟩,tm,v,true,none⟩=true:=ji _ _ _ _ _ _ _ rfl rfl
def ar5(b:BinOp)(x y:O):wz dI bV (⟨i,us,os,⟨d,g9,.bin b x y⟩⟩::l) σ res pd K=qR g9 dI bV res us os σ pd i d (.bin b x y) l K:=qX E0 _ _ _ _ _ _ _ _ _ _ _ _ _ rfl
def ar6(b:BinOp)(x y:O):again σ ⟨i,⟨d,g9,.bin b x y⟩,tm,v,true,none⟩=true:=ji _ _ _ _ _ _ _ rfl rfl
def ar7(p:Bool)(x y:O):wz dI bV (⟨i,us,os,⟨d,g9,.eqb p x y⟩⟩::l) σ res pd K=qR g9 dI bV res us os σ pd i d (.eqb p x y) l K:=qX E0 _ _ _ _ _ _ _ _ _ _ _ _ _ rfl
def ar8(p:Bool)(x y:O):again σ ⟨i,⟨d,g9,.eqb p x y⟩,tm,v,true,none⟩=true:=ji _ _ _ _ _ _ _ rfl rfl
def ah6(p:Bool)(x y:O):wz dI bV (⟨i,us,os,⟨d,g9,.F8 p x y⟩⟩::l) σ res pd K=qR g9 dI bV res us os σ pd i d (.F8 p x y) l K:=qX E0 _ _ _ _ _ _ _ _ _ _ _ _ _ rfl
def ah7(p:Bool)(x y:O):again σ ⟨i,⟨d,g9,.F8 p x y⟩,tm,v,true,none⟩=true:=ji _ _ _ _ _ _ _ rfl rfl
def ah8(p:Bool)(x y:O):wz dI bV (⟨i,us,os,⟨d,g9,.Io p x y⟩⟩::l) σ res pd K=qR g9 dI bV res us os σ pd i d (.Io p x y) l K:=qX E0 _ _ _ _ _ _ _ _ _ _ _ _ _ rfl
def ah9(p:Bool)(x y:O):again σ ⟨i,⟨d,g9,.Io p x y⟩,tm,v,true,none⟩=true:=ji _ _ _ _ _ _ _ rfl rfl
def asa(k:Nat)(p:Bool)(x:O):wz dI bV (⟨i,us,os,⟨d,g9,.nil k p x⟩⟩::l) σ res pd K=qR g9 dI bV res us os σ pd i d (.nil k p x) l K:=qX E0 _ _ _ _ _ _ _ _ _ _ _ _ _ rfl
def asb(k:Nat)(p:Bool)(x:O):again σ ⟨i,⟨d,g9,.nil k p x⟩,tm,v,true,none⟩=true:=ji _ _ _ _ _ _ _ rfl rfl
def asc(x:O):wz dI bV (⟨i,us,os,⟨d,g9,.not x⟩⟩::l) σ res pd K=qR g9 dI bV res us os σ pd i d (.not x) l K:=qX E0 _ _ _ _ _ _ _ _ _ _ _ _ _ rfl
def ase(x:O):again σ ⟨i,⟨d,g9,.not x⟩,tm,v,true,none⟩=true:=ji _ _ _ _ _ _ _ rfl rfl
def am0(k:IntKind)(x:O):wz dI bV (⟨i,us,os,⟨d,g9,.conv k x⟩⟩::l) σ res pd K=qR g9 dI bV res us os σ pd i d (.conv k x) l K:=qX E0 _ _ _ _ _ _ _ _ _ _ _ _ _ rfl
def am1(k:IntKind)(x:O):again σ ⟨i,⟨d,g9,.conv k x⟩,tm,v,true,none⟩=true:=ji _ _ _ _ _ _ _ rfl rfl
def aia(z:List B)(ps:List (Nat×Nat×O)):wz dI bV (⟨i,us,os,⟨d,g9,.build z ps⟩⟩::l) σ res pd K=qR g9 dI bV res us os σ pd i d (.build z ps) l K:=qX E0 _ _ _ _ _ _ _ _ _ _ _ _ _ rfl
def aib(z:List B)(ps:List (Nat×Nat×O)):again σ ⟨i,⟨d,g9,.build z ps⟩,tm,v,true,none⟩=true:=ji _ _ _ _ _ _ _ rfl rfl
def am2(f:Nat)(cs:List O):wz dI bV (⟨i,us,os,⟨d,g9,.Q7 f cs⟩⟩::l) σ res pd K=qR g9 dI bV res us os σ pd i d (.Q7 f cs) l K:=qX E0 _ _ _ _ _ _ _ _ _ _ _ _ _ rfl
def am3(f:Nat)(cs:List O):again σ ⟨i,⟨d,g9,.Q7 f cs⟩,tm,v,true,none⟩=true:=ji _ _ _ _ _ _ _ rfl rfl
def asf(x:O):wz dI bV (⟨i,us,os,⟨d,g9,.len x⟩⟩::l) σ res pd K=qR g9 dI bV res us os σ pd i d (.len x) l K:=qX E0 _ _ _ _ _ _ _ _ _ _ _ _ _ rfl
def asg(x:O):again σ ⟨i,⟨d,g9,.len x⟩,tm,v,true,none⟩=true:=ji _ _ _ _ _ _ _ rfl rfl
def aic(e:Nat)(x:O)(lo hi mx:Option O):wz dI bV (⟨i,us,os,⟨d,g9,.slice e x lo hi mx⟩⟩::l) σ res pd K=qR g9 dI bV res us os σ pd i d (.slice e x lo hi mx) l K:=qX E0 _ _ _ _ _ _ _ _ _ _ _ _ _ rfl
def aie(e:Nat)(x:O)(lo hi mx:Option O):again σ ⟨i,⟨d,g9,.slice e x lo hi mx⟩,tm,v,true,none⟩=true:=ji _ _ _ _ _ _ _ rfl rfl
def am4(x:O):wz dI bV (⟨i,us,os,⟨d,g9,.Q8 x⟩⟩::l) σ res pd K=qR g9 dI bV res us os σ pd i d (.Q8 x) l K:=qX E0 _ _ _ _ _ _ _ _ _ _ _ _ _ rfl
def am5(x:O):again σ ⟨i,⟨d,g9,.Q8 x⟩,tm,v,true,none⟩=true:=ji _ _ _ _ _ _ _ rfl rfl
def am6(x y:O):wz dI bV (⟨i,us,os,⟨d,g9,.min2 x y⟩⟩::l) σ res pd K=qR g9 dI bV res us os σ pd i d (.min2 x y) l K:=qX E0 _ _ _ _ _ _ _ _ _ _ _ _ _ rfl
def am7(x y:O):again σ ⟨i,⟨d,g9,.min2 x y⟩,tm,v,true,none⟩=true:=ji _ _ _ _ _ _ _ rfl rfl
end
def ash{E:Env}{tm:Tr V}{σ:St}{Q:AX->Tr V->St->Prop}{d:Dr}{pt:List (List Nat)}{ds:List Nat}(h:XK E pt tm (aaT tm ds) d σ [] [] λtm' σ'=>Q .normal tm' σ'):bM E (.drawn d pt ds) tm σ Q:=
 aeV _ (JO tm ds) h
section
variable {E:Env}
theorem am8{n:Nat}{op:wS}{tm:Tr V}{σ σ':St}{v:V}{K:V->St->Prop}(h:qw (jd E n) op tm σ=some (v,σ'))(hk:K v σ'):wpOp E op tm σ K:=by
 unfold wpOp;split
 .next g args=>
  unfold qw at h;simp only[wS.kind]at h;split at h
  .next f a e=>
   unfold acG at e;cases hg:g.ev tm with
   |fn f' caps=>
    dsimp only at e
    rw[hg]at e
    obtain⟨rfl,rfl⟩:=Prod.mk.inj (eA e)
    exact⟨n,v,σ',h,hk⟩
   |_=>grind
  .cases h
 .next hne=>
  have e:qw (λ_ _ _=>none) op tm σ=qw (jd E n) op tm σ:=by
   unfold qw;cases hk2:op.kind with
   |c=>cases op<;>simp only[wS.kind,reduceCtorEq]at hk2;grind
   |_=>rfl
  grind
def aif{n:Nat}{o:AO}{tm:Tr V}{σ σ':St}{v:V}{K:V->St->Prop}(h:stepG (jd E n) o tm σ=some (v,σ'))(hk:K v σ'):wpG E o tm σ K:=by grind[wpG,stepG,am8]
theorem X4{n:Nat}:∀{l:List AO}{tm tm':Tr V}{σ σ':St}{Q:Tr V->St->Prop},uz (jd E n) l tm σ=some (tm',σ')->Q tm' σ'->wpOps E l tm σ Q
 |[],_,_,_,_,_,h,hq=>by cases h;exact hq
 |o::l,tm,tm',σ,σ',Q,h,hq=>by
  unfold uz at h;split at h
  .next v σ1 e=>
   rw[MC]at h;exact aif e (X4 h hq)
  .cases h
theorem aii{n:Nat}{pt:List (List Nat)}{dI bV:Tr V}:∀{d:Dr}{σ σ':St}{res:List Rs}{pd:List iW}{tm':Tr V}{Q:Tr V->St->Prop},Dt (jd E n) pt dI bV d σ res pd=some (tm',σ')->Q tm' σ'->XK E pt dI bV d σ res pd Q
 |.fin qs,σ,σ',res,pd,tm',Q,h,hq=>by grind[Go.Proofs.Xe.Dt,Go.Proofs.Xe.XK]
 |.act qs x r,σ,σ',res,pd,tm',Q,h,hq=>by
  unfold Dt at h;unfold XK;split at h
  .next σ1 res1 pd1 e=>
   rw[e];dsimp only;cases hb:pd1.all (again σ1)with
   |false=>rw[hb]at h;cases h
   |true=>
    rw[hb]at h
    simp only[ck]at h
    refine⟨rfl,?_⟩
    split at h
    .next XB e2=>
     rw[e2]
     dsimp only
     split at h
     .next v σ2 e3=>exact aif e3 (aii h hq)
     .cases h
    .cases h
  .cases h
end
section
variable (E:Env) (tm:Tr V) (σ:St) (Q:AX→Tr V→St→Prop)
def asi(l:List AO):bM E (.ops l) tm σ Q=wpOps E l tm σ λtm' σ'=>Q .normal tm' σ':=by
 refine propext ⟨?_,amx⟩;rintro⟨n,e,tm',σ',h,hq⟩;cases n with
 |zero=>grind[exec]
 |succ n=>
  simp only[exec,Xo]at h
  grind[X4]
def awh(d:Dr)(pt:List (List Nat))(ds:List Nat):bM E (.drawn d pt ds) tm σ Q=XK E pt tm (aaT tm ds) d σ [] [] λtm' σ'=>Q .normal tm' σ':=by
 refine propext ⟨?_,ash⟩;rintro⟨n,e,tm',σ',h,hq⟩;cases n with
 |zero=>grind[exec]
 |succ n=>
  simp only[exec,xDr,Xo,JO]at h
  grind[aii]
def seq_eq(a b:AC):bM E (.seq a b) tm σ Q=bM E a tm σ (U7 E b Q):=by
 refine propext ⟨?_,run_seq⟩;rintro⟨n,e,tm',σ',h,hq⟩;cases n with
 |zero=>grind[exec]
 |succ n=>
  rw[exec]at h
  cases hx:exec E n a tm σ with
  |none=>rw[hx]at h;cases h
  |some q=>
   rw[hx]at h
   obtain⟨e1,JJ,σ1⟩:=q
   refine⟨n,e1,JJ,σ1,hx,?_⟩
   cases e1 with
   |normal=>exact⟨n,e,tm',σ',h,hq⟩
   |exit i=>cases h;exact hq
   |ret=>cases h;exact hq
def aij(i:Nat)(a:AC):bM E (.block i a) tm σ Q=bM E a tm σ (ahI i Q):=by
 refine propext ⟨?_,EU⟩;rintro⟨n,e,tm',σ',h,hq⟩;cases n with
 |zero=>grind[exec]
 |succ n=>
  rw[exec]at h
  cases hx:exec E n a tm σ with
  |none=>rw[hx]at h;cases h
  |some q=>
   rw[hx]at h
   obtain⟨e1,JJ,σ1⟩:=q
   refine⟨n,e1,JJ,σ1,hx,?_⟩
   cases e1 with
   |normal=>cases h;exact hq
   |exit j=>cases h;exact hq
   |ret=>cases h;exact hq
def am9:bM E .skip tm σ Q=Q .normal tm σ:=by
 refine propext ⟨?_,XI⟩;rintro⟨n,e,tm',σ',h,hq⟩;cases n with
 |zero=>grind[exec]
 |succ n=>grind[exec]
def ana(i:Nat):bM E (.exit i) tm σ Q=Q (.exit i) tm σ:=by
 refine propext ⟨?_,ahG⟩;rintro⟨n,e,tm',σ',h,hq⟩;cases n with
 |zero=>grind[exec]
 |succ n=>grind[exec]
def asj:bM E .ret tm σ Q=Q .ret tm σ:=by
 refine propext ⟨?_,amv⟩;rintro⟨n,e,tm',σ',h,hq⟩;cases n with
 |zero=>grind[exec]
 |succ n=>grind[exec]
def ifV(v:V)(P:Bool->Prop):Prop:=match v with|.c (.bool t)=>P t|_=>False
def anb(x:O)(a b:AC):bM E (.cond x a b) tm σ Q=ifV (x.ev tm) λt=>bM E (bif t then a else b) tm σ Q:=by
 refine propext ⟨?_,λh=>?_⟩
 .rintro⟨n,e,tm',σ',h,hq⟩;cases n with
  |zero=>grind[exec]
  |succ n=>
   simp only[exec,acI]at h
   split at h
   .next t e=>rw[e];exact⟨n,_,_,_,h,hq⟩
   .cases h
 .unfold ifV at h;grind[ahH]
def asl(a b:AC):bM E (bif true then a else b) tm σ Q=bM E a tm σ Q:=rfl
def asn(a b:AC):bM E (bif false then a else b) tm σ Q=bM E b tm σ Q:=rfl
def anc(a b:AC):bM E (bif !true then a else b) tm σ Q=bM E b tm σ Q:=rfl
def ane(a b:AC):bM E (bif !false then a else b) tm σ Q=bM E a tm σ Q:=rfl
def aik(n:Nat)(b:AC)(r:List (Nat×Option (Nat×Bool))):bM E (AF.body ⟨n,b,r⟩) tm σ Q=bM E b tm σ Q:=rfl
def ail(P:Bool->Prop):ifV (.c (.bool true)) P=P true:=rfl
def afi(P:Bool->Prop):ifV (.c (.bool false)) P=P false:=rfl
def anf(b:Bool)(P:Bool->Prop):ifV (.c (.bool (!b))) P=ifV (.c (.bool b)) λt=>P (!t):=rfl
def aH{p:Prop}[Decidable p]{P:Bool->Prop}(h1:p->P true)(h2:¬p->P false):ifV (.c (.bool (decide p))) P:=by
 show P (decide p);by_cases h:p
 .grind
 grind
def awi{b:Bool}{P:Bool->Prop}(h1:b=true->P true)(h2:b=false->P false):ifV (.c (.bool b)) P:=by
 show P b;cases b with
 |true=>grind
 |false=>grind
def tick:Prop:=∀n:Nat,n=n
def afj:tick=True:=propext ⟨λ_=>trivial,λ_ _=>rfl⟩
@[congr] theorem au9 {z:Prop} {v v' : V} {P:Bool→Prop} (hz:tick=z) (h:v=v'):ifV v P=ifV v' P:=by rw [h]
@[congr] theorem ava {z:Prop} {v v' : Option V} {P:V→Prop} (hz:tick=z) (h:v=v'):H8 v P=H8 v' P:=by rw [h]
@[congr] theorem aso {z:Prop} {c:AC} {tm tm' : Tr V} {σ σ' : St} {Q:AX→Tr V→St→Prop} (hz:tick=z) (h:tm=tm') (h2:σ=σ'):bM E c tm σ Q=bM E c tm' σ' Q:=by rw [h,h2]
@[congr] theorem aqd {z:Prop} {c:List AO} {tm tm' : Tr V} {σ σ' : St} {Q:Tr V→St→Prop} (hz:tick=z) (h:tm=tm') (h2:σ=σ'):wpOps E c tm σ Q=wpOps E c tm' σ' Q:=by rw [h,h2]
@[congr] theorem avb {z:Prop} {c:AO} {tm tm' : Tr V} {σ σ' : St} {Q:V→St→Prop} (hz:tick=z) (h:tm=tm') (h2:σ=σ'):wpG E c tm σ Q=wpG E c tm' σ' Q:=by rw [h,h2]
@[congr] theorem asq {z:Prop} {c:wS} {tm tm' : Tr V} {σ σ' : St} {Q:V→St→Prop} (hz:tick=z) (h:tm=tm') (h2:σ=σ'):wpOp E c tm σ Q=wpOp E c tm' σ' Q:=by rw [h,h2]
@[congr] theorem aqe {z:Prop} {f:Nat} {a a' : List V} {σ σ' : St} {Q:V→St→Prop} (hz:tick=z) (h:a=a') (h2:σ=σ'):aC E f a σ Q=aC E f a' σ' Q:=by rw [h,h2]
@[congr] theorem avc {z:Prop} {dI bV:Tr V} {qs:List DO} {σ σ' : St} {res res' : List Rs} {pd pd' : List iW} {K:St→List Rs→List iW→Prop} (hz:tick=z) (h2:σ=σ') (h3:res=res') (h4:pd=pd'):wz dI bV qs σ res pd K=wz dI bV qs σ' res' pd' K:=by grind
@[congr] theorem avd {z:Prop} {pt:List (List Nat)} {dI bV:Tr V} {d:Dr} {σ σ' : St} {res res' : List Rs} {pd pd' : List iW} {K:Tr V→St→Prop} (hz:tick=z) (h2:σ=σ') (h3:res=res') (h4:pd=pd'):XK E pt dI bV d σ res pd K=XK E pt dI bV d σ' res' pd' K:=by grind
@[congr] theorem ave {z:Prop} {σ σ' : St} {pd pd' : List iW} (hz:tick=z) (h:σ=σ') (h2:pd=pd'):agn σ pd=agn σ' pd':=by rw [h,h2]
@[congr] theorem asr {z:Prop} {i i' : Nat} {o:AO} {tm:Tr V} {v:V} {g:Bool} {nm:Option Nat} (hz:tick=z) (h:i=i'):iW.mk i o tm v g nm=iW.mk i' o tm v g nm:=by rw [h]
@[congr] theorem aqf {z:Prop} {σ σ' : St} {p:iW} (hz:tick=z) (h:σ=σ'):again σ p=again σ' p:=by rw [h]
@[congr] theorem avf {z:Prop} {dI bV:Tr V} {res:List Rs} {us us' os:List Nat} (hz:tick=z) (h:us=us'):Og dI bV res us os=Og dI bV res us' os:=by rw [h]
@[congr] theorem asu {z:Prop} {bV:Tr V} {res:List Rs} {us us' : List Nat} (hz:tick=z) (h:us=us'):JE bV res us=JE bV res us':=by rw [h]
@[congr] theorem avg {z:Prop} {res:List Rs} {u u' : Nat} (hz:tick=z) (h:u=u'):fnd res u=fnd res u':=by rw [h]
@[congr] theorem aqg {z:Prop} {dI tm:Tr V} {os os' : List Nat} (hz:tick=z) (h:os=os'):F9 dI tm os=F9 dI tm os':=by rw [h]
@[congr] theorem asv {z:Prop} {g:Option (Nat×Bool)} {tm:Tr V} {A B:Prop} (hz:tick=z):CX g tm A B=CX g tm A B:=rfl
@[congr] theorem avh {z:Prop} {v v' : V} {b:Bool} {A B:Prop} (hz:tick=z) (h:v=v'):gsV v b A B=gsV v' b A B:=by rw [h]
@[congr] theorem awj {z:Prop} {g:Option (Nat×Bool)} {dI bV:Tr V} {res:List Rs} {us os:List Nat} {σ:St} {pd:List iW} {i:Nat} {d:Option Nat} {op:wS} {l:List DO} {K:St→List Rs→List iW→Prop} (hz:tick=z):qR g dI bV res us os σ pd i d op l K=qR g dI bV res us os σ pd i d op l K:=rfl
def ang(E:Env)(d:Option Nat)(g:Option (Nat×Bool))(op:wS)(tm:Tr V)(σ:St)(K:V->St->Prop):wpG E ⟨d,g,op⟩ tm σ K=CX g tm (wpOp E op tm σ K) (K .tnil σ):=rfl
def asw(x:O)(K:V->St->Prop):wpOp E (.mov x) tm σ K=H8 (some (x.ev tm)) λv=>K v σ:=rfl
def asx(b:AC):U7 E b Q .normal tm σ=bM E b tm σ Q:=rfl
def asy(b:AC)(i:Nat):U7 E b Q (.exit i) tm σ=Q (.exit i) tm σ:=rfl
def asz(b:AC):U7 E b Q .ret tm σ=Q .ret tm σ:=rfl
def asA(i:Nat):ahI i Q .normal tm σ=Q .normal tm σ:=rfl
def asB(i j:Nat):ahI i Q (.exit j) tm σ=Q (bif Nat.beq j i then .normal else .exit j) tm σ:=rfl
def asC(i:Nat):ahI i Q .ret tm σ=Q .ret tm σ:=rfl
variable (I:Nat→Tr V→St→Prop) (m:Nat) (res:List (Nat×Option (Nat×Bool))) (K:V→St→Prop)
def asD:amw I m Q .normal tm σ=∃m',m'<m/\I m' tm σ:=rfl
def asE(i:Nat):amw I m Q (.exit i) tm σ=Q (.exit i) tm σ:=rfl
def asF:amw I m Q .ret tm σ=Q .ret tm σ:=rfl
def anh:aaN res K .normal tm σ=H8 (result tm σ res) λv=>K v σ:=by unfold aaN H8;grind
def asG:aaN res K .ret tm σ=H8 (result tm σ res) λv=>K v σ:=by unfold aaN H8;grind
end
def ain(p q:Rat):decide (pI p q<0)=decide (p<q):=by
 by_cases h:p<q
 .rw[be h,be];exact rQ.mpr h
 .rw[az h,az];exact λe=>h (rQ.mp e)
def aio(tm:Tr V)(d:Nat)(v:V):Tr.get (FP tm (some d) v) d=some v:=by grind[FP,Tr.vg]
def asH(tm:Tr V)(d j:Nat)(v:V)(h:j≠d):Tr.get (FP tm (some d) v) j=Tr.get tm j:=by grind[FP,Tr.vg]
def aaX(tm:Tr V)(σ:St):qF tm σ []=some .tnil:=rfl
def aip(tm:Tr V)(σ:St)(t:Nat)(r:List (Nat×Option (Nat×Bool))):qF tm σ ((t,none)::r)=match tm.get t,qF tm σ r with|some v,some w=>some (.aZ v w)|_,_=>none:=rfl
def aiq(tm:Tr V)(σ:St)(t n:Nat)(g:Bool)(r:List (Nat×Option (Nat×Bool))):qF tm σ ((t,some (n,g))::r)=match(match tm.ah t with|.c (.ptr b o)=>ld σ.h b o n g|_=>none),qF tm σ r with|some v,some w=>some (.aZ v w)|_,_=>none:=rfl
def Fr.new1{σ:St}{h:Tr Bk}{n:Nat}{k:Bk}(hf:Fr σ ⟨h,n⟩):Fr σ ⟨hset h n k,n+1⟩:=Fr.new hf k
def Fr.set1{σ:St}{h:Tr Bk}{n b:Nat}{k:Bk}(hf:Fr σ ⟨h,n⟩)(h1:σ.aj<=b)(h2:b<n):Fr σ ⟨hset h b k,n⟩:=Fr.set hf h1 h2 k
def au{h:Tr Bk}{b:Nat}{k:Bk}(e:h b=some k)(o n:Nat)(g:Bool):ld h b o n g=bif k.rd then zW k.cells o n g else none:=by unfold ld;rw[e]
def aI{h:Tr Bk}{b:Nat}{k:Bk}(e:h b=some k)(o:Nat)(vs:List B):sto h b o vs=match bif k.pl then yS k.cells o vs else none with|some l=>some (hset h b ⟨l,k.opn⟩)|none=>none:=by grind[sto]
def plo(o:Option (Nat×Nat)):Bool:=match o with|some (0,_)=>false|_=>true
def Z9(o:Option (Nat×Nat)):Bool:=match o with|some (0,t)=>Nat.beq t 1|_=>true
def asI(k:Bk):k.pl=plo k.opn:=rfl
def OL(k:Bk):k.rd=Z9 k.opn:=rfl
def air:plo none=true:=rfl
def ais:Z9 none=true:=rfl
def aqh(e t:Nat)(h:e≠0):plo (some (e,t))=true:=by cases e with|zero=>omega|succ e=>rfl
def CQ(e t:Nat)(h:e≠0):Z9 (some (e,t))=true:=by cases e with|zero=>omega|succ e=>rfl
def awk:Z9 (some (0,1))=true:=rfl
def ait(k:IntKind)(n:Int):B.kn (.int k n)=true:=rfl
theorem vk(b:Bool):B.kn (.bool b)=true:=rfl
theorem Ac(s:ByteArray):B.kn (.str s)=true:=rfl
def asJ(b o:Nat):B.kn (.ptr b o)=true:=rfl
def ani:B.kn .UM=true:=rfl
def awl(b o n:Nat)(c:Cap):B.kn (.sl b o n c)=true:=rfl
def anj:B.kn .aP=true:=rfl
def awm(b:Nat):B.kn (.mp b)=true:=rfl
def HL.kn{h:Tr Bk}{e:Nat}{v:B}{n:Nat}{G:Nat->List B}(hl:HL h e v n G):v.kn=true:=by rcases hl with⟨-,rfl⟩|⟨b,o,c,rfl,-⟩<;>rfl
def HC.kn{h:Tr Bk}{v:B}{n:Nat}{G:Nat->B}(hl:HC h v n G):v.kn=true:=by rcases hl with⟨-,rfl⟩|⟨b,o,c,rfl,-⟩<;>rfl
def awn(x:B)(l:List B)(o n:Nat):zW (x::l) o n true=bif Nat.beq (((x::l).drop o).take n).length n&&(((x::l).drop o).take n).all B.kn then some (.agg (((x::l).drop o).take n))else none:=rfl
def awo(x:B)(l:List B)(o n:Nat):zW (x::l) o n false=match(x::l).drop o with|x::_=>bif x.kn then some (.c x)else none|[]=>none:=rfl
def awp(x:B)(l vs:List B):yS (x::l) 0 vs=bif Nat.ble vs.length (x::l).length then some (vs++(x::l).drop vs.length)else none:=by rw[yS]
def awq(x:B)(l:List B)(o:Nat)(vs:List B):yS (x::l) (o+1) vs=match yS l o vs with|some r=>some (x::r)|none=>none:=by rfl
def aiu(a b:Nat):(Int.ofNat a=Int.ofNat b)=(a=b):=propext ⟨Int.ofNat.inj,λe=>by rw[e]⟩
def eq_neg(a b:Nat):(Int.ofNat a=Int.negSucc b)=False:=by simp
def awr[h:Decidable True]: @decide True h=true:=by simp
def awt[h:Decidable False]: @decide False h=false:=by simp
attribute [go_sem] afj anc ane asl asn aik afb wpOps_cons ahQ arG o_load amF amG amH arH avV arI arJ arK arL avW avX avY avZ av1 av2 av3 arM arN av4 av5 av6 amI amJ arO av8 av7 av9 amK Dq arP aaz awc amE afa arQ amL awd arR KQ rep awe amM arS aze azf ae0 amC ae1 ae2 ae3 ae4 ae5 ae6 ae7 ae8 V.cells amD avU ahP arF aA azg azh cD dj Bool.and_true Bool.true_and List.drop_succ_cons gp fo cI bL List.length_nil Nat.reduceAdd cL cB XY S9 yj IJ ak dx gN fu List.map_cons List.map_nil result ahO aG amT amU amP ar0 amX amZ ah0 ah2 ah4 ar2 ar5 ar7 ah6 ah8 asa asc am0 aia am2 asf aic am4 am6 aff amQ amR arT ahT afc ahU amN ahV afd aaU ahW afe ahS amS ahX ar1 amY ah1 ah3 ah5 ar4 ar6 ar8 ah7 ah9 asb ase am1 aib am3 asg aie am5 am7 aaW X3 afh amV awf aaV afg List.contains_cons List.contains_nil Nat.reduceBEq Bool.or_false Bool.or_true Bool.false_or Bool.true_or ck fq List.getD_cons_zero List.getD_cons_succ am and_true ang arU arV arW arX arY arZ amO awg amW asw asi awh seq_eq aij am9 ana asj anb ail afi anf asx asy asz asA asB asC asD asE asF anh asG ain ait vk Ac asJ ani awl anj awm awn awo awp awq aiu eq_neg awr awt asI OL air ais aqh CQ awk aio asH aaX aip aiq avR aaQ aaR ahN aeZ avS avT arB ahM avP arA XU aeY XT arx XQ arz XR aeX avQ amA acO arC XW aaS arD arE amB XV
end Go.Proofs.Xe
