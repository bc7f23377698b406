import Derived.Test.YthkggcakedkboaaGreatDoorY10
import Derived.Attr
set_option linter.all false
namespace Go.Proofs.Xe
open Go.RowKit Go.Proofs.Ins
noncomputable def Z8(tm:Tr V):List Nat->Tr V
 |[]=>tm
 |d::l=>(Z8 tm l).set d none
def Jl(tm:Tr V):∀ds,Aj tm ds=some (Z8 tm ds)
 |[]=>rfl
 |d::l=>by unfold Aj;rw[Jl tm l];rfl
theorem ab1(tm:Tr V)(j:Nat):∀ds:List Nat,ds.contains j=false->(Z8 tm ds).get j=tm.get j
 |[],_=>rfl
 |d::l,h=>by rw[List.contains_cons,Bool.or_eq_false_iff]at h;show((Z8 tm l).set d none).get j=_;rw[Tr.uh,ae (by simpa using h.1),ab1 tm j l h.2]
def ag9(tm:Tr V)(ds:List Nat)(j:Nat)(h:ds.contains j=false):Tr.ah (Z8 tm ds) j=Tr.ah tm j:=by grind[Tr.ah,ab1]
def fnd:List Rs->Nat->Option Rs
 |[],_=>none
 |r::l,u=>bif Nat.beq r.i u then some r else fnd l u
def W9(u:Nat):∀l:List Rs,l.find? (λr=>Nat.beq r.i u)=fnd l u
 |[]=>rfl
 |r::l=>by rw[List.find?_cons,fnd,W9 u l];cases Nat.beq r.i u<;>rfl
noncomputable def tmO:Option (Tr V)->Option Rs->Option (Tr V)
 |some tm,some r=>some (EC tm r.d r.v)
 |_,_=>none
def aha(bM:Tr V)(res:List Rs):Jd bM res []=some bM:=rfl
def aeC(bM:Tr V)(res:List Rs)(u:Nat)(us:List Nat):Jd bM res (u::us)=tmO (Jd bM res us) (fnd res u):=by
 rw[Jd,W9];cases Jd bM res us with
 |none=>rfl
 |some tm=>
  cases fnd res u with
  |none=>rfl
  |some r=>show Jc tm r.d r.v=_;rw[KZ];rfl
def ahb(tm:Tr V)(i:Nat)(d:Option Nat)(v:V):tmO (some tm) (some ⟨i,d,v⟩)=some (EC tm d v):=rfl
def alU(i:Nat)(d:Option Nat)(v:V)(l:List Rs):fnd (⟨i,d,v⟩::l) i=some ⟨i,d,v⟩:=by unfold fnd;simp
def ahc(i u:Nat)(d:Option Nat)(v:V)(l:List Rs)(h:i≠u):fnd (⟨i,d,v⟩::l) u=fnd l u:=by grind[fnd,NR]
def aeD(dI tm:Tr V):Fh dI tm []=some tm:=rfl
def Z9(dI tm:Tr V)(t:Nat)(l:List Nat):Fh dI tm (t::l)=match Fh dI tm l with|some tm=>some (EC tm (some t) (dI.ah t))|none=>none:=by rfl
def aqJ(dI bM:Tr V)(res:List Rs)(us os:List Nat):Nc dI bM res us os=match Jd bM res us with|some tm=>Fh dI tm os|none=>none:=rfl
def ahd(bM:Tr V):Kz bM []=some bM:=rfl
def aeE(bM:Tr V)(i:Nat)(d:Option Nat)(v:V)(l:List Rs):Kz bM (⟨i,d,v⟩::l)=match Kz bM l with|some tm=>some (EC tm d v)|none=>none:=by grind[Kz,KZ]
def BA(g:Option (Nat×Bool))(tm:Tr V)(A B:Prop):Prop:=match gate g tm with|some true=>A|some false=>B|none=>False
def gsV(v:V)(b:Bool)(A B:Prop):Prop:=match v with|.c (.bool c)=>(bif c==b then A else B)|.tnil=>B|_=>False
def aqK(tm:Tr V)(A B:Prop):BA none tm A B=A:=rfl
def aqL(t:Nat)(b:Bool)(tm:Tr V)(A B:Prop):BA (some (t,b)) tm A B=gsV (tm.ah t) b A B:=by grind[BA,gsV,gate]
def aqM(A B:Prop):gsV (.c (.bool true)) true A B=A:=rfl
def aqN(A B:Prop):gsV (.c (.bool true)) false A B=B:=rfl
def aqO(A B:Prop):gsV (.c (.bool false)) true A B=B:=rfl
def aqP(A B:Prop):gsV (.c (.bool false)) false A B=A:=rfl
def alV(b:Bool)(A B:Prop):gsV .tnil b A B=B:=rfl
def Uh{p:Prop}[Decidable p]{A B:Prop}(h1:p->A)(h2:¬p->B):gsV (.c (.bool (decide p))) true A B:=by
 by_cases h:p
 .rw[be h];exact h1 h
 .rw[ap h];exact h2 h
def Xa{p:Prop}[Decidable p]{A B:Prop}(h1:p->B)(h2:¬p->A):gsV (.c (.bool (decide p))) false A B:=by
 by_cases h:p
 .rw[be h];exact h1 h
 .rw[ap h];exact h2 h
def vg(dI bM:Tr V)(qs:List DO)(σ:St)(res:List Rs)(pd:List iO)(K:St->List Rs->List iO->Prop):Prop:=
 match xZ dI bM qs σ res pd with
 |some (σ,res,pd)=>K σ res pd
 |none=>False
def alW(dI bM:Tr V)(σ:St)(res:List Rs)(pd:List iO)(K:St->List Rs->List iO->Prop):vg dI bM [] σ res pd K=K σ res pd:=rfl
section
variable (E:Env) (pt:List (List Nat)) (dI bM:Tr V) (σ:St) (res:List Rs) (pd:List iO)
def pX(i:Nat)(us os:List Nat)(d:Option Nat)(g:Option (Nat×Bool))(op:vT)(l:List DO)(K:St->List Rs->List iO->Prop)(h:op.kind=.q):
  vg dI bM (⟨i,us,os,⟨d,g,op⟩⟩::l) σ res pd K=match Nc dI bM res us os with
   |some tm=>BA g tm (wpOp E op tm σ λv _=>vg dI bM l σ (⟨i,d,v⟩::res) (⟨i,⟨d,g,op⟩,tm,v,true,none⟩::pd) K) (vg dI bM l σ (⟨i,d,.tnil⟩::res) (⟨i,⟨d,g,op⟩,tm,.tnil,false,none⟩::pd) K)
   |none=>False:=by
 unfold vg BA
 rw[xZ]
 dsimp only
 cases Nc dI bM res us os with
 |none=>rfl
 |some tm=>
  dsimp only
  have hc:∀g l,op≠.call g l:=λg l e=>by rw[e]at h;cases h
  grind[iF,Gv]
def aeF(i:Nat)(us os:List Nat)(d:Option Nat)(g:Option (Nat×Bool))(z:List B)(l:List DO)(K:St->List Rs->List iO->Prop):
  vg dI bM (⟨i,us,os,⟨d,g,.alloc z⟩⟩::l) σ res pd K=match Nc dI bM res us os with
   |some tm=>BA g tm (vg dI bM l ⟨hset σ.h σ.aj ⟨z,none⟩,σ.aj+1⟩ (⟨i,d,.c (.ptr σ.aj 0)⟩::res) (⟨i,⟨d,g,.alloc z⟩,tm,.c (.ptr σ.aj 0),true,some σ.aj⟩::pd) K)
    (vg dI bM l σ (⟨i,d,.tnil⟩::res) (⟨i,⟨d,g,.alloc z⟩,tm,.tnil,false,none⟩::pd) K)
   |none=>False:=by
 unfold vg BA
 rw[xZ]
 dsimp only
 cases Nc dI bM res us os with
 |none=>rfl
 |some tm=>
  grind[vT.kind,nC,jS]
def alX(i:Nat)(us os:List Nat)(d:Option Nat)(g:Option (Nat×Bool))(x:O)(l:List DO)(K:St->List Rs->List iO->Prop):
  vg dI bM (⟨i,us,os,⟨d,g,.box x⟩⟩::l) σ res pd K=match Nc dI bM res us os with
   |some tm=>BA g tm (match(x.ev tm).cells with
    |some z=>vg dI bM l ⟨hset σ.h σ.aj ⟨z,none⟩,σ.aj+1⟩ (⟨i,d,.c (.ptr σ.aj 0)⟩::res) (⟨i,⟨d,g,.box x⟩,tm,.c (.ptr σ.aj 0),true,some σ.aj⟩::pd) K
    |none=>False) (vg dI bM l σ (⟨i,d,.tnil⟩::res) (⟨i,⟨d,g,.box x⟩,tm,.tnil,false,none⟩::pd) K)
   |none=>False:=by
 unfold vg BA
 rw[xZ]
 dsimp only
 cases Nc dI bM res us os with
 |none=>rfl
 |some tm=>
  grind[vT.kind,nC,jS]
def alY(i:Nat)(us os:List Nat)(d:Option Nat)(g:Option (Nat×Bool))(e n:Nat)(z:List B)(ps:List (Nat×Nat×O))(l:List DO)(K:St->List Rs->List iO->Prop)(hn:n*e<=16777216)(hn2:n<=16777216):
  vg dI bM (⟨i,us,os,⟨d,g,.bsl e n z ps⟩⟩::l) σ res pd K=match Nc dI bM res us os with
   |some tm=>BA g tm (match BQ (rep z n) (ps.map λp=>(p.1,p.2.1,p.2.2.ev tm))with
    |some c=>vg dI bM l ⟨hset σ.h σ.aj ⟨c,none⟩,σ.aj+1⟩ (⟨i,d,.c (.sl σ.aj 0 n (.ex n))⟩::res) (⟨i,⟨d,g,.bsl e n z ps⟩,tm,.c (.sl σ.aj 0 n (.ex n)),true,some σ.aj⟩::pd) K
    |none=>False) (vg dI bM l σ (⟨i,d,.tnil⟩::res) (⟨i,⟨d,g,.bsl e n z ps⟩,tm,.tnil,false,none⟩::pd) K)
   |none=>False:=by
 unfold vg BA
 rw[xZ]
 dsimp only
 cases Nc dI bM res us os with
 |none=>rfl
 |some tm=>
  grind[vT.kind,nC,vW,jS]
def agn(σ:St):List iO->Prop
 |[]=>True
 |p::l=>again σ p=true/\agn σ l
theorem Ui(σ:St):∀l:List iO,(l.all (again σ)=true)=agn σ l
 |[]=>by simp[agn]
 |p::l=>by rw[cM,af,Ui σ l];rfl
def alZ(σ:St):agn σ []=True:=rfl
def ahe(σ:St)(p:iO)(l:List iO):agn σ (p::l)=(again σ p=true/\agn σ l):=rfl
def aeG(l:List Nat):List iO->List iO
 |[]=>[]
 |p::pd=>bif l.contains p.i then aeG l pd else p::aeG l pd
theorem ahf(l:List Nat):∀pd:List iO,pd.filter (λp=>!(l.contains p.i))=aeG l pd
 |[]=>rfl
 |p::pd=>by rw[List.filter_cons,aeG,ahf l pd];cases l.contains p.i<;>rfl
def al0(qs:List DO)(Q:Tr V->St->Prop):WO E pt dI bM (.fin qs) σ res pd Q=vg dI bM qs σ res pd λσ res pd=>agn σ pd/\(match Kz bM res with|some tm=>Q tm σ|none=>False):=by grind[WO,vg,Ui]
def al1(qs:List DO)(i:Nat)(us os:List Nat)(d:Option Nat)(g:Option (Nat×Bool))(op:vT)(r:Dr)(Q:Tr V->St->Prop):
  WO E pt dI bM (.act qs ⟨i,us,os,⟨d,g,op⟩⟩ r) σ res pd Q=vg dI bM qs σ res pd λσ res pd=>agn σ pd/\(match Nc dI bM res us os with
   |some tm=>wpG E ⟨d,g,op⟩ tm σ λv σ'=>WO E pt dI bM r σ' (⟨i,d,v⟩::res) (aeG (pt.getD i []) pd) Q
   |none=>False):=by
 grind[WO,vg,Ui,ahf]
def ahg(b:B):ad5 b b=b.kn:=by
 cases b<;>simp[ad5,B.kn]
 case int k n=>cases n<;>simp[eqI]
 case sl b o n c=>cases c<;>simp[eqC]
def aac:∀l:List B,Nb l l=l.all B.kn
 |[]=>rfl
 |b::l=>by rw[cM];unfold Nb;rw[ahg b,aac l]
def al2(l:List B):eqV (.agg l) (.agg l)=l.all B.kn:=aac l
def auZ(b:B):eqV (.c b) (.c b)=b.kn:=ahg b
def je(i:Nat)(d:Option Nat)(g9:Option (Nat×Bool))(op:vT)(tm:Tr V)(v:V)(h:op.kind=.q)(h2:op.looks=false):again σ ⟨i,⟨d,g9,op⟩,tm,v,true,none⟩=true:=by grind[again]
def aad(i:Nat)(d:Option Nat)(g9:Option (Nat×Bool))(n:Nat)(g:Bool)(x:O)(tm:Tr V)(v:V):again σ ⟨i,⟨d,g9,.load n g x⟩,tm,v,true,none⟩=match(match x.ev tm with|.c (.ptr b o)=>ld σ.h b o n g|_=>none)with|some u=>eqV u v|none=>false:=by rfl
def Xb(i:Nat)(d:Option Nat)(g9:Option (Nat×Bool))(z:List B)(tm:Tr V)(v:V)(b:Nat):again σ ⟨i,⟨d,g9,.alloc z⟩,tm,v,true,some b⟩=match σ.h b with|some ⟨c,none⟩=>Nb c z|_=>false:=by rfl
def aeH(i:Nat)(d:Option Nat)(g9:Option (Nat×Bool))(e n:Nat)(z:List B)(ps:List (Nat×Nat×O))(tm:Tr V)(v:V)(b:Nat)(hn:n*e<=16777216)(hn2:n<=16777216):again σ ⟨i,⟨d,g9,.bsl e n z ps⟩,tm,v,true,some b⟩=match BQ (rep z n) (ps.map λp=>(p.1,p.2.1,p.2.2.ev tm))with|some z=>(match σ.h b with|some ⟨c,none⟩=>Nb c z|_=>false)|none=>false:=by grind[again,vT.kind,nC,vW]
end
def al3(σ:St)(i:Nat)(o:AO)(tm:Tr V)(v:V)(nm:Option Nat):again σ ⟨i,o,tm,v,false,nm⟩=true:=rfl
section
def E0:Env:=⟨λ_=>none,λ_ _ _=>none⟩
variable (dI bM tm:Tr V) (σ:St) (res:List Rs) (pd:List iO) (i:Nat) (us os:List Nat) (d:Option Nat) (g9:Option (Nat×Bool)) (l:List DO) (K:St→List Rs→List iO→Prop) (v:V)
def qR(g:Option (Nat×Bool))(dI bM:Tr V)(res:List Rs)(us os:List Nat)(σ:St)(pd:List iO)(i:Nat)(d:Option Nat)(op:vT)(l:List DO)(K:St->List Rs->List iO->Prop):Prop:=match Nc dI bM res us os with
 |some tm=>BA g tm (wpOp E0 op tm σ λv _=>vg dI bM l σ (⟨i,d,v⟩::res) (⟨i,⟨d,g,op⟩,tm,v,true,none⟩::pd) K) (vg dI bM l σ (⟨i,d,.tnil⟩::res) (⟨i,⟨d,g,op⟩,tm,.tnil,false,none⟩::pd) K)
 |none=>False
def au0(g:Option (Nat×Bool))(dI bM:Tr V)(res:List Rs)(us os:List Nat)(σ:St)(pd:List iO)(i:Nat)(d:Option Nat)(op:vT)(l:List DO)(K:St->List Rs->List iO->Prop):qR g dI bM res us os σ pd i d op l K=match Nc dI bM res us os with
 |some tm=>BA g tm (wpOp E0 op tm σ λv _=>vg dI bM l σ (⟨i,d,v⟩::res) (⟨i,⟨d,g,op⟩,tm,v,true,none⟩::pd) K) (vg dI bM l σ (⟨i,d,.tnil⟩::res) (⟨i,⟨d,g,op⟩,tm,.tnil,false,none⟩::pd) K)
 |none=>False:=rfl
def aqQ(x:O):vg dI bM (⟨i,us,os,⟨d,g9,.mov x⟩⟩::l) σ res pd K=qR g9 dI bM res us os σ pd i d (.mov x) l K:=pX E0 _ _ _ _ _ _ _ _ _ _ _ _ _ rfl
def aqR(x:O):again σ ⟨i,⟨d,g9,.mov x⟩,tm,v,true,none⟩=true:=je _ _ _ _ _ _ _ rfl rfl
def al4(c a b:O):vg dI bM (⟨i,us,os,⟨d,g9,.pick c a b⟩⟩::l) σ res pd K=qR g9 dI bM res us os σ pd i d (.pick c a b) l K:=pX E0 _ _ _ _ _ _ _ _ _ _ _ _ _ rfl
def al5(c a b:O):again σ ⟨i,⟨d,g9,.pick c a b⟩,tm,v,true,none⟩=true:=je _ _ _ _ _ _ _ rfl rfl
def al6(n:Nat)(g:Bool)(x:O):vg dI bM (⟨i,us,os,⟨d,g9,.load n g x⟩⟩::l) σ res pd K=qR g9 dI bM res us os σ pd i d (.load n g x) l K:=pX E0 _ _ _ _ _ _ _ _ _ _ _ _ _ rfl
def ahh(n:Nat)(x:O):vg dI bM (⟨i,us,os,⟨d,g9,.BP n x⟩⟩::l) σ res pd K=qR g9 dI bM res us os σ pd i d (.BP n x) l K:=pX E0 _ _ _ _ _ _ _ _ _ _ _ _ _ rfl
def ahi(n:Nat)(x:O):again σ ⟨i,⟨d,g9,.BP n x⟩,tm,v,true,none⟩=true:=je _ _ _ _ _ _ _ rfl rfl
def ahj(o n:Nat)(g:Bool)(x:O):vg dI bM (⟨i,us,os,⟨d,g9,.field o n g x⟩⟩::l) σ res pd K=qR g9 dI bM res us os σ pd i d (.field o n g x) l K:=pX E0 _ _ _ _ _ _ _ _ _ _ _ _ _ rfl
def ahk(o n:Nat)(g:Bool)(x:O):again σ ⟨i,⟨d,g9,.field o n g x⟩,tm,v,true,none⟩=true:=je _ _ _ _ _ _ _ rfl rfl
def ahl(e:Nat)(x j:O):vg dI bM (⟨i,us,os,⟨d,g9,.Fe e x j⟩⟩::l) σ res pd K=qR g9 dI bM res us os σ pd i d (.Fe e x j) l K:=pX E0 _ _ _ _ _ _ _ _ _ _ _ _ _ rfl
def ahm(e:Nat)(x j:O):again σ ⟨i,⟨d,g9,.Fe e x j⟩,tm,v,true,none⟩=true:=je _ _ _ _ _ _ _ rfl rfl
def aqS(n:Nat)(x:O):vg dI bM (⟨i,us,os,⟨d,g9,.ext n x⟩⟩::l) σ res pd K=qR g9 dI bM res us os σ pd i d (.ext n x) l K:=pX E0 _ _ _ _ _ _ _ _ _ _ _ _ _ rfl
def aqT(n:Nat)(x:O):again σ ⟨i,⟨d,g9,.ext n x⟩,tm,v,true,none⟩=true:=je _ _ _ _ _ _ _ rfl rfl
def aqU(b:BinOp)(x y:O):vg dI bM (⟨i,us,os,⟨d,g9,.bin b x y⟩⟩::l) σ res pd K=qR g9 dI bM res us os σ pd i d (.bin b x y) l K:=pX E0 _ _ _ _ _ _ _ _ _ _ _ _ _ rfl
def aqV(b:BinOp)(x y:O):again σ ⟨i,⟨d,g9,.bin b x y⟩,tm,v,true,none⟩=true:=je _ _ _ _ _ _ _ rfl rfl
def aqW(p:Bool)(x y:O):vg dI bM (⟨i,us,os,⟨d,g9,.eqb p x y⟩⟩::l) σ res pd K=qR g9 dI bM res us os σ pd i d (.eqb p x y) l K:=pX E0 _ _ _ _ _ _ _ _ _ _ _ _ _ rfl
def aqX(p:Bool)(x y:O):again σ ⟨i,⟨d,g9,.eqb p x y⟩,tm,v,true,none⟩=true:=je _ _ _ _ _ _ _ rfl rfl
def ahn(p:Bool)(x y:O):vg dI bM (⟨i,us,os,⟨d,g9,.Fg p x y⟩⟩::l) σ res pd K=qR g9 dI bM res us os σ pd i d (.Fg p x y) l K:=pX E0 _ _ _ _ _ _ _ _ _ _ _ _ _ rfl
def aho(p:Bool)(x y:O):again σ ⟨i,⟨d,g9,.Fg p x y⟩,tm,v,true,none⟩=true:=je _ _ _ _ _ _ _ rfl rfl
def ahp(p:Bool)(x y:O):vg dI bM (⟨i,us,os,⟨d,g9,.G9 p x y⟩⟩::l) σ res pd K=qR g9 dI bM res us os σ pd i d (.G9 p x y) l K:=pX E0 _ _ _ _ _ _ _ _ _ _ _ _ _ rfl
def ahq(p:Bool)(x y:O):again σ ⟨i,⟨d,g9,.G9 p x y⟩,tm,v,true,none⟩=true:=je _ _ _ _ _ _ _ rfl rfl
def aqY(k:Nat)(p:Bool)(x:O):vg dI bM (⟨i,us,os,⟨d,g9,.nil k p x⟩⟩::l) σ res pd K=qR g9 dI bM res us os σ pd i d (.nil k p x) l K:=pX E0 _ _ _ _ _ _ _ _ _ _ _ _ _ rfl
def aqZ(k:Nat)(p:Bool)(x:O):again σ ⟨i,⟨d,g9,.nil k p x⟩,tm,v,true,none⟩=true:=je _ _ _ _ _ _ _ rfl rfl
def aq0(x:O):vg dI bM (⟨i,us,os,⟨d,g9,.not x⟩⟩::l) σ res pd K=qR g9 dI bM res us os σ pd i d (.not x) l K:=pX E0 _ _ _ _ _ _ _ _ _ _ _ _ _ rfl
def aq1(x:O):again σ ⟨i,⟨d,g9,.not x⟩,tm,v,true,none⟩=true:=je _ _ _ _ _ _ _ rfl rfl
def al7(k:IntKind)(x:O):vg dI bM (⟨i,us,os,⟨d,g9,.conv k x⟩⟩::l) σ res pd K=qR g9 dI bM res us os σ pd i d (.conv k x) l K:=pX E0 _ _ _ _ _ _ _ _ _ _ _ _ _ rfl
def al8(k:IntKind)(x:O):again σ ⟨i,⟨d,g9,.conv k x⟩,tm,v,true,none⟩=true:=je _ _ _ _ _ _ _ rfl rfl
def ahr(z:List B)(ps:List (Nat×Nat×O)):vg dI bM (⟨i,us,os,⟨d,g9,.build z ps⟩⟩::l) σ res pd K=qR g9 dI bM res us os σ pd i d (.build z ps) l K:=pX E0 _ _ _ _ _ _ _ _ _ _ _ _ _ rfl
def ahs(z:List B)(ps:List (Nat×Nat×O)):again σ ⟨i,⟨d,g9,.build z ps⟩,tm,v,true,none⟩=true:=je _ _ _ _ _ _ _ rfl rfl
def al9(f:Nat)(cs:List O):vg dI bM (⟨i,us,os,⟨d,g9,.P7 f cs⟩⟩::l) σ res pd K=qR g9 dI bM res us os σ pd i d (.P7 f cs) l K:=pX E0 _ _ _ _ _ _ _ _ _ _ _ _ _ rfl
def ama(f:Nat)(cs:List O):again σ ⟨i,⟨d,g9,.P7 f cs⟩,tm,v,true,none⟩=true:=je _ _ _ _ _ _ _ rfl rfl
def aq2(x:O):vg dI bM (⟨i,us,os,⟨d,g9,.len x⟩⟩::l) σ res pd K=qR g9 dI bM res us os σ pd i d (.len x) l K:=pX E0 _ _ _ _ _ _ _ _ _ _ _ _ _ rfl
def aq3(x:O):again σ ⟨i,⟨d,g9,.len x⟩,tm,v,true,none⟩=true:=je _ _ _ _ _ _ _ rfl rfl
def aht(e:Nat)(x:O)(lo hi mx:Option O):vg dI bM (⟨i,us,os,⟨d,g9,.slice e x lo hi mx⟩⟩::l) σ res pd K=qR g9 dI bM res us os σ pd i d (.slice e x lo hi mx) l K:=pX E0 _ _ _ _ _ _ _ _ _ _ _ _ _ rfl
def ahu(e:Nat)(x:O)(lo hi mx:Option O):again σ ⟨i,⟨d,g9,.slice e x lo hi mx⟩,tm,v,true,none⟩=true:=je _ _ _ _ _ _ _ rfl rfl
def amb(x:O):vg dI bM (⟨i,us,os,⟨d,g9,.P8 x⟩⟩::l) σ res pd K=qR g9 dI bM res us os σ pd i d (.P8 x) l K:=pX E0 _ _ _ _ _ _ _ _ _ _ _ _ _ rfl
def amc(x:O):again σ ⟨i,⟨d,g9,.P8 x⟩,tm,v,true,none⟩=true:=je _ _ _ _ _ _ _ rfl rfl
def amd(x y:O):vg dI bM (⟨i,us,os,⟨d,g9,.min2 x y⟩⟩::l) σ res pd K=qR g9 dI bM res us os σ pd i d (.min2 x y) l K:=pX E0 _ _ _ _ _ _ _ _ _ _ _ _ _ rfl
def ame(x y:O):again σ ⟨i,⟨d,g9,.min2 x y⟩,tm,v,true,none⟩=true:=je _ _ _ _ _ _ _ rfl rfl
end
def aq4{E:Env}{tm:Tr V}{σ:St}{Q:AX->Tr V->St->Prop}{d:Dr}{pt:List (List Nat)}{ds:List Nat}(h:WO E pt tm (Z8 tm ds) d σ [] [] λtm' σ'=>Q .normal tm' σ'):bH E (.drawn d pt ds) tm σ Q:=
 ael _ (Jl tm ds) h
section
variable {E:Env}
theorem amf{n:Nat}{op:vT}{tm:Tr V}{σ σ':St}{v:V}{K:V->St->Prop}(h:oJ (iQ E n) op tm σ=some (v,σ'))(hk:K v σ'):wpOp E op tm σ K:=by
 unfold wpOp;split
 .next g args=>
  unfold oJ at h;simp only[vT.kind]at h;split at h
  .next f a e=>
   unfold abO at e;cases hg:g.ev tm with
   |fn f' caps=>
    dsimp only at e
    rw[hg]at e
    obtain⟨rfl,rfl⟩:=Prod.mk.inj (et e)
    exact⟨n,v,σ',h,hk⟩
   |_=>grind
  .cases h
 .next hne=>
  have e:oJ (λ_ _ _=>none) op tm σ=oJ (iQ E n) op tm σ:=by
   unfold oJ;cases hk2:op.kind with
   |c=>cases op<;>simp only[vT.kind,reduceCtorEq]at hk2;grind
   |_=>rfl
  grind
def ahv{n:Nat}{o:AO}{tm:Tr V}{σ σ':St}{v:V}{K:V->St->Prop}(h:stepG (iQ E n) o tm σ=some (v,σ'))(hk:K v σ'):wpG E o tm σ K:=by grind[wpG,stepG,amf]
theorem Xc{n:Nat}:∀{l:List AO}{tm tm':Tr V}{σ σ':St}{Q:Tr V->St->Prop},su (iQ E n) l tm σ=some (tm',σ')->Q tm' σ'->wpOps E l tm σ Q
 |[],_,_,_,_,_,h,hq=>by cases h;exact hq
 |o::l,tm,tm',σ,σ',Q,h,hq=>by
  unfold su at h;split at h
  .next v σ1 e=>
   rw[KZ]at h;exact ahv e (Xc h hq)
  .cases h
theorem ahw{n:Nat}{pt:List (List Nat)}{dI bM:Tr V}:∀{d:Dr}{σ σ':St}{res:List Rs}{pd:List iO}{tm':Tr V}{Q:Tr V->St->Prop},BR (iQ E n) pt dI bM d σ res pd=some (tm',σ')->Q tm' σ'->WO E pt dI bM d σ res pd Q
 |.fin qs,σ,σ',res,pd,tm',Q,h,hq=>by grind[Go.Proofs.Xe.BR,Go.Proofs.Xe.WO]
 |.act qs x r,σ,σ',res,pd,tm',Q,h,hq=>by
  unfold BR at h;unfold WO;split at h
  .next σ1 res1 pd1 e=>
   rw[e];dsimp only;cases hb:pd1.all (again σ1)with
   |false=>rw[hb]at h;cases h
   |true=>
    rw[hb]at h
    simp only[cw]at h
    refine⟨rfl,?_⟩
    split at h
    .next VU e2=>
     rw[e2]
     dsimp only
     split at h
     .next v σ2 e3=>exact ahv e3 (ahw h hq)
     .cases h
    .cases h
  .cases h
end
section
variable (E:Env) (tm:Tr V) (σ:St) (Q:AX→Tr V→St→Prop)
def aq5(l:List AO):bH E (.ops l) tm σ Q=wpOps E l tm σ λtm' σ'=>Q .normal tm' σ':=by
 refine propext ⟨?_,alF⟩;rintro⟨n,e,tm',σ',h,hq⟩;cases n with
 |zero=>grind[exec]
 |succ n=>
  simp only[exec,Wj]at h
  grind[Xc]
def au1(d:Dr)(pt:List (List Nat))(ds:List Nat):bH E (.drawn d pt ds) tm σ Q=WO E pt tm (Z8 tm ds) d σ [] [] λtm' σ'=>Q .normal tm' σ':=by
 refine propext ⟨?_,aq4⟩;rintro⟨n,e,tm',σ',h,hq⟩;cases n with
 |zero=>grind[exec]
 |succ n=>
  simp only[exec,xDr,Wj,Jl]at h
  grind[ahw]
def seq_eq(a b:AC):bH E (.seq a b) tm σ Q=bH E a tm σ (Ue E b Q):=by
 refine propext ⟨?_,run_seq⟩;rintro⟨n,e,tm',σ',h,hq⟩;cases n with
 |zero=>grind[exec]
 |succ n=>
  rw[exec]at h
  cases hx:exec E n a tm σ with
  |none=>rw[hx]at h;cases h
  |some q=>
   rw[hx]at h
   obtain⟨e1,H6,σ1⟩:=q
   refine⟨n,e1,H6,σ1,hx,?_⟩
   cases e1 with
   |normal=>exact⟨n,e,tm',σ',h,hq⟩
   |exit i=>cases h;exact hq
   |ret=>cases h;exact hq
def ahx(i:Nat)(a:AC):bH E (.block i a) tm σ Q=bH E a tm σ (agX i Q):=by
 refine propext ⟨?_,D8⟩;rintro⟨n,e,tm',σ',h,hq⟩;cases n with
 |zero=>grind[exec]
 |succ n=>
  rw[exec]at h
  cases hx:exec E n a tm σ with
  |none=>rw[hx]at h;cases h
  |some q=>
   rw[hx]at h
   obtain⟨e1,H6,σ1⟩:=q
   refine⟨n,e1,H6,σ1,hx,?_⟩
   cases e1 with
   |normal=>cases h;exact hq
   |exit j=>cases h;exact hq
   |ret=>cases h;exact hq
def amg:bH E .skip tm σ Q=Q .normal tm σ:=by
 refine propext ⟨?_,WL⟩;rintro⟨n,e,tm',σ',h,hq⟩;cases n with
 |zero=>grind[exec]
 |succ n=>grind[exec]
def amh(i:Nat):bH E (.exit i) tm σ Q=Q (.exit i) tm σ:=by
 refine propext ⟨?_,agV⟩;rintro⟨n,e,tm',σ',h,hq⟩;cases n with
 |zero=>grind[exec]
 |succ n=>grind[exec]
def aq6:bH E .ret tm σ Q=Q .ret tm σ:=by
 refine propext ⟨?_,alD⟩;rintro⟨n,e,tm',σ',h,hq⟩;cases n with
 |zero=>grind[exec]
 |succ n=>grind[exec]
def ifV(v:V)(P:Bool->Prop):Prop:=match v with|.c (.bool t)=>P t|_=>False
def ami(x:O)(a b:AC):bH E (.cond x a b) tm σ Q=ifV (x.ev tm) λt=>bH E (bif t then a else b) tm σ Q:=by
 refine propext ⟨?_,λh=>?_⟩
 .rintro⟨n,e,tm',σ',h,hq⟩;cases n with
  |zero=>grind[exec]
  |succ n=>
   simp only[exec,abQ]at h
   split at h
   .next t e=>rw[e];exact⟨n,_,_,_,h,hq⟩
   .cases h
 .unfold ifV at h;grind[agW]
def aq7(a b:AC):bH E (bif true then a else b) tm σ Q=bH E a tm σ Q:=rfl
def aq8(a b:AC):bH E (bif false then a else b) tm σ Q=bH E b tm σ Q:=rfl
def amj(a b:AC):bH E (bif !true then a else b) tm σ Q=bH E b tm σ Q:=rfl
def amk(a b:AC):bH E (bif !false then a else b) tm σ Q=bH E a tm σ Q:=rfl
def ahy(n:Nat)(b:AC)(r:List (Nat×Option (Nat×Bool))):bH E (AF.body ⟨n,b,r⟩) tm σ Q=bH E b tm σ Q:=rfl
def ahz(P:Bool->Prop):ifV (.c (.bool true)) P=P true:=rfl
def aeI(P:Bool->Prop):ifV (.c (.bool false)) P=P false:=rfl
def aml(b:Bool)(P:Bool->Prop):ifV (.c (.bool (!b))) P=ifV (.c (.bool b)) λt=>P (!t):=rfl
def aH{p:Prop}[Decidable p]{P:Bool->Prop}(h1:p->P true)(h2:¬p->P false):ifV (.c (.bool (decide p))) P:=by
 show P (decide p);by_cases h:p
 .grind
 grind
def au2{b:Bool}{P:Bool->Prop}(h1:b=true->P true)(h2:b=false->P false):ifV (.c (.bool b)) P:=by
 show P b;cases b with
 |true=>grind
 |false=>grind
def tick:Prop:=∀n:Nat,n=n
def aeJ:tick=True:=propext ⟨λ_=>trivial,λ_ _=>rfl⟩
@[congr] theorem atP {z:Prop} {v v' : V} {P:Bool→Prop} (hz:tick=z) (h:v=v'):ifV v P=ifV v' P:=by rw [h]
@[congr] theorem atQ {z:Prop} {v v' : Option V} {P:V→Prop} (hz:tick=z) (h:v=v'):Gv v P=Gv v' P:=by rw [h]
@[congr] theorem aq9 {z:Prop} {c:AC} {tm tm' : Tr V} {σ σ' : St} {Q:AX→Tr V→St→Prop} (hz:tick=z) (h:tm=tm') (h2:σ=σ'):bH E c tm σ Q=bH E c tm' σ' Q:=by rw [h,h2]
@[congr] theorem ao7 {z:Prop} {c:List AO} {tm tm' : Tr V} {σ σ' : St} {Q:Tr V→St→Prop} (hz:tick=z) (h:tm=tm') (h2:σ=σ'):wpOps E c tm σ Q=wpOps E c tm' σ' Q:=by rw [h,h2]
@[congr] theorem atS {z:Prop} {c:AO} {tm tm' : Tr V} {σ σ' : St} {Q:V→St→Prop} (hz:tick=z) (h:tm=tm') (h2:σ=σ'):wpG E c tm σ Q=wpG E c tm' σ' Q:=by rw [h,h2]
@[congr] theorem ara {z:Prop} {c:vT} {tm tm' : Tr V} {σ σ' : St} {Q:V→St→Prop} (hz:tick=z) (h:tm=tm') (h2:σ=σ'):wpOp E c tm σ Q=wpOp E c tm' σ' Q:=by rw [h,h2]
@[congr] theorem ao8 {z:Prop} {f:Nat} {a a' : List V} {σ σ' : St} {Q:V→St→Prop} (hz:tick=z) (h:a=a') (h2:σ=σ'):aC E f a σ Q=aC E f a' σ' Q:=by rw [h,h2]
@[congr] theorem atT {z:Prop} {dI bM:Tr V} {qs:List DO} {σ σ' : St} {res res' : List Rs} {pd pd' : List iO} {K:St→List Rs→List iO→Prop} (hz:tick=z) (h2:σ=σ') (h3:res=res') (h4:pd=pd'):vg dI bM qs σ res pd K=vg dI bM qs σ' res' pd' K:=by grind
@[congr] theorem atU {z:Prop} {pt:List (List Nat)} {dI bM:Tr V} {d:Dr} {σ σ' : St} {res res' : List Rs} {pd pd' : List iO} {K:Tr V→St→Prop} (hz:tick=z) (h2:σ=σ') (h3:res=res') (h4:pd=pd'):WO E pt dI bM d σ res pd K=WO E pt dI bM d σ' res' pd' K:=by grind
@[congr] theorem atV {z:Prop} {σ σ' : St} {pd pd' : List iO} (hz:tick=z) (h:σ=σ') (h2:pd=pd'):agn σ pd=agn σ' pd':=by rw [h,h2]
@[congr] theorem arb {z:Prop} {i i' : Nat} {o:AO} {tm:Tr V} {v:V} {g:Bool} {nm:Option Nat} (hz:tick=z) (h:i=i'):iO.mk i o tm v g nm=iO.mk i' o tm v g nm:=by rw [h]
@[congr] theorem ao9 {z:Prop} {σ σ' : St} {p:iO} (hz:tick=z) (h:σ=σ'):again σ p=again σ' p:=by rw [h]
@[congr] theorem atW {z:Prop} {dI bM:Tr V} {res:List Rs} {us us' os:List Nat} (hz:tick=z) (h:us=us'):Nc dI bM res us os=Nc dI bM res us' os:=by rw [h]
@[congr] theorem ard {z:Prop} {bM:Tr V} {res:List Rs} {us us' : List Nat} (hz:tick=z) (h:us=us'):Jd bM res us=Jd bM res us':=by rw [h]
@[congr] theorem atX {z:Prop} {res:List Rs} {u u' : Nat} (hz:tick=z) (h:u=u'):fnd res u=fnd res u':=by rw [h]
@[congr] theorem apa {z:Prop} {dI tm:Tr V} {os os' : List Nat} (hz:tick=z) (h:os=os'):Fh dI tm os=Fh dI tm os':=by rw [h]
@[congr] theorem arf {z:Prop} {g:Option (Nat×Bool)} {tm:Tr V} {A B:Prop} (hz:tick=z):BA g tm A B=BA g tm A B:=rfl
@[congr] theorem atY {z:Prop} {v v' : V} {b:Bool} {A B:Prop} (hz:tick=z) (h:v=v'):gsV v b A B=gsV v' b A B:=by rw [h]
@[congr] theorem au3 {z:Prop} {g:Option (Nat×Bool)} {dI bM:Tr V} {res:List Rs} {us os:List Nat} {σ:St} {pd:List iO} {i:Nat} {d:Option Nat} {op:vT} {l:List DO} {K:St→List Rs→List iO→Prop} (hz:tick=z):qR g dI bM res us os σ pd i d op l K=qR g dI bM res us os σ pd i d op l K:=rfl
def amm(E:Env)(d:Option Nat)(g:Option (Nat×Bool))(op:vT)(tm:Tr V)(σ:St)(K:V->St->Prop):wpG E ⟨d,g,op⟩ tm σ K=BA g tm (wpOp E op tm σ K) (K .tnil σ):=rfl
def arh(x:O)(K:V->St->Prop):wpOp E (.mov x) tm σ K=Gv (some (x.ev tm)) λv=>K v σ:=rfl
def ari(b:AC):Ue E b Q .normal tm σ=bH E b tm σ Q:=rfl
def arj(b:AC)(i:Nat):Ue E b Q (.exit i) tm σ=Q (.exit i) tm σ:=rfl
def ark(b:AC):Ue E b Q .ret tm σ=Q .ret tm σ:=rfl
def arl(i:Nat):agX i Q .normal tm σ=Q .normal tm σ:=rfl
def arn(i j:Nat):agX i Q (.exit j) tm σ=Q (bif Nat.beq j i then .normal else .exit j) tm σ:=rfl
def aro(i:Nat):agX i Q .ret tm σ=Q .ret tm σ:=rfl
variable (I:Nat→Tr V→St→Prop) (m:Nat) (res:List (Nat×Option (Nat×Bool))) (K:V→St→Prop)
def arp:alE I m Q .normal tm σ=∃m',m'<m/\I m' tm σ:=rfl
def arq(i:Nat):alE I m Q (.exit i) tm σ=Q (.exit i) tm σ:=rfl
def ars:alE I m Q .ret tm σ=Q .ret tm σ:=rfl
def amn:ZX res K .normal tm σ=Gv (result tm σ res) λv=>K v σ:=by unfold ZX Gv;grind
def aru:ZX res K .ret tm σ=Gv (result tm σ res) λv=>K v σ:=by unfold ZX Gv;grind
end
def arv(p q:Rat):decide (qh p q<0)=decide (p<q):=by
 by_cases h:p<q
 .rw[be h,be];exact qy.mpr h
 .rw[ap h,ap];exact λe=>h (qy.mp e)
def ahA(tm:Tr V)(d:Nat)(v:V):Tr.get (EC tm (some d) v) d=some v:=by grind[EC,Tr.uh]
def arw(tm:Tr V)(d j:Nat)(v:V)(h:j≠d):Tr.get (EC tm (some d) v) j=Tr.get tm j:=by grind[EC,Tr.uh]
def aae(tm:Tr V)(σ:St):oV tm σ []=some .tnil:=rfl
def ahB(tm:Tr V)(σ:St)(t:Nat)(r:List (Nat×Option (Nat×Bool))):oV tm σ ((t,none)::r)=match tm.get t,oV tm σ r with|some v,some w=>some (.aW v w)|_,_=>none:=rfl
def ahC(tm:Tr V)(σ:St)(t n:Nat)(g:Bool)(r:List (Nat×Option (Nat×Bool))):oV tm σ ((t,some (n,g))::r)=match(match tm.ah t with|.c (.ptr b o)=>ld σ.h b o n g|_=>none),oV tm σ r with|some v,some w=>some (.aW v w)|_,_=>none:=rfl
def Fr.new1{σ:St}{h:Tr Bk}{n:Nat}{k:Bk}(hf:Fr σ ⟨h,n⟩):Fr σ ⟨hset h n k,n+1⟩:=Fr.new hf k
def Fr.set1{σ:St}{h:Tr Bk}{n b:Nat}{k:Bk}(hf:Fr σ ⟨h,n⟩)(h1:σ.aj<=b)(h2:b<n):Fr σ ⟨hset h b k,n⟩:=Fr.set hf h1 h2 k
def ak{h:Tr Bk}{b:Nat}{k:Bk}(e:h b=some k)(o n:Nat)(g:Bool):ld h b o n g=bif k.rd then zI k.cells o n g else none:=by unfold ld;rw[e]
def aJ{h:Tr Bk}{b:Nat}{k:Bk}(e:h b=some k)(o:Nat)(vs:List B):sto h b o vs=match bif k.pl then yw k.cells o vs else none with|some l=>some (hset h b ⟨l,k.opn⟩)|none=>none:=by grind[sto]
def plo(o:Option (Nat×Nat)):Bool:=match o with|some (0,_)=>false|_=>true
def Zc(o:Option (Nat×Nat)):Bool:=match o with|some (0,t)=>Nat.beq t 1|_=>true
def arx(k:Bk):k.pl=plo k.opn:=rfl
def NS(k:Bk):k.rd=Zc k.opn:=rfl
def ahD:plo none=true:=rfl
def ahE:Zc none=true:=rfl
def apb(e t:Nat)(h:e≠0):plo (some (e,t))=true:=by cases e with|zero=>omega|succ e=>rfl
def CG(e t:Nat)(h:e≠0):Zc (some (e,t))=true:=by cases e with|zero=>omega|succ e=>rfl
def au4:Zc (some (0,1))=true:=rfl
def ahF(k:IntKind)(n:Int):B.kn (.int k n)=true:=rfl
theorem Am(b:Bool):B.kn (.bool b)=true:=rfl
theorem FV(s:ByteArray):B.kn (.str s)=true:=rfl
def arz(b o:Nat):B.kn (.ptr b o)=true:=rfl
def amo:B.kn .TK=true:=rfl
def au5(b o n:Nat)(c:Cap):B.kn (.sl b o n c)=true:=rfl
def amq:B.kn .aX=true:=rfl
def au6(b:Nat):B.kn (.mp b)=true:=rfl
def HL.kn{h:Tr Bk}{e:Nat}{v:B}{n:Nat}{G:Nat->List B}(hl:HL h e v n G):v.kn=true:=by rcases hl with⟨-,rfl⟩|⟨b,o,c,rfl,-⟩<;>rfl
def HC.kn{h:Tr Bk}{v:B}{n:Nat}{G:Nat->B}(hl:HC h v n G):v.kn=true:=by rcases hl with⟨-,rfl⟩|⟨b,o,c,rfl,-⟩<;>rfl
def au7(x:B)(l:List B)(o n:Nat):zI (x::l) o n true=bif Nat.beq (((x::l).drop o).take n).length n&&(((x::l).drop o).take n).all B.kn then some (.agg (((x::l).drop o).take n))else none:=rfl
def au8(x:B)(l:List B)(o n:Nat):zI (x::l) o n false=match(x::l).drop o with|x::_=>bif x.kn then some (.c x)else none|[]=>none:=rfl
def au9(x:B)(l vs:List B):yw (x::l) 0 vs=bif Nat.ble vs.length (x::l).length then some (vs++(x::l).drop vs.length)else none:=by rw[yw]
def ava(x:B)(l:List B)(o:Nat)(vs:List B):yw (x::l) (o+1) vs=match yw l o vs with|some r=>some (x::r)|none=>none:=by rfl
def ahG(a b:Nat):(Int.ofNat a=Int.ofNat b)=(a=b):=propext ⟨im,λe=>by rw[e]⟩
def eq_neg(a b:Nat):(Int.ofNat a=Int.negSucc b)=False:=by simp
def avb[h:Decidable True]: @decide True h=true:=by simp
def avc[h:Decidable False]: @decide False h=false:=by simp
attribute [go_sem] aeJ amj amk aq7 aq8 ahy aeB wpOps_cons ag7 aqw o_load alM alN alO aqx auI aqy aqz aqA aqB auJ auK auL auM auN auO auP aqC aqD auQ auR auS alP alQ aqE auU auT auV alR BQ aqF ZH auW alL aeA aqG alS auX aqH J6 rep auY alT aqI axW axX aer alJ aes aeu aev aew aex aey V.cells alK auH ag6 aqv aA axY axZ cM eh Bool.and_true Bool.true_and List.drop_succ_cons gn fS cC bR List.length_nil Nat.reduceAdd cI cA abZ NR vW Fv au cV List.nil_append gx List.map_cons List.map_nil result ag5 aG al0 al1 alW aqQ al4 al6 ahh ahj ahl aqS aqU aqW ahn ahp aqY aq0 al7 ahr al9 aq2 aht amb amd aeF alX alY aqJ aha aeC ahb alU ahc aeD Z9 ahd aeE ag9 alZ ahe aqR al5 ahi ahk ahm aqT aqV aqX aho ahq aqZ aq1 al8 ahs ama aq3 ahu amc ame aad Xb aeH al2 auZ aac aeG List.contains_cons List.contains_nil Nat.reduceBEq Bool.or_false Bool.or_true Bool.false_or Bool.true_or cw fi List.getD_cons_zero List.getD_cons_succ am and_true amm aqK aqL aqM aqN aqO aqP alV au0 al3 arh aq5 au1 seq_eq ahx amg amh aq6 ami ahz aeI aml ari arj ark arl arn aro arp arq ars amn aru arv ahF Am FV arz amo au5 amq au6 au7 au8 au9 ava ahG eq_neg avb avc arx NS ahD ahE apb CG au4 ahA arw aae ahB ahC auE Z5 Z7 ag3 aep auF auG aqr ag2 auC aqp ag1 aeo WW aqn WU aqo WV aen auD alH abY aqs WY aqt aqu alI WX ag4
end Go.Proofs.Xe
