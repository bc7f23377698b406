import Derived.Test.YtchhojplceoifaaGreatDoorYd10
import Derived.Attr
set_option linter.all false
namespace Go.Proofs.Xe
open Go.RowKit Go.Proofs.Ins
noncomputable def aaM(tm:Tr V):List Nat->Tr V
 |[]=>tm
 |d::l=>(aaM tm l).set d none
def JK(tm:Tr V):∀ds,BA tm ds=some (aaM tm ds)
 |[]=>rfl
 |d::l=>by unfold BA;rw[JK tm l];rfl
theorem acK(tm:Tr V)(j:Nat):∀ds:List Nat,ds.contains j=false->(aaM tm ds).get j=tm.get j
 |[],_=>rfl
 |d::l,h=>by rw[List.contains_cons,Bool.or_eq_false_iff]at h;show((aaM tm l).set d none).get j=_;rw[Tr.uX,ab (by simpa using h.1),acK tm j l h.2]
def ahI(tm:Tr V)(ds:List Nat)(j:Nat)(h:ds.contains j=false):Tr.ah (aaM tm ds) j=Tr.ah tm j:=by grind[Tr.ah,acK]
def fnd:List Rs->Nat->Option Rs
 |[],_=>none
 |r::l,u=>bif Nat.beq r.i u then some r else fnd l u
def XR(u:Nat):∀l:List Rs,l.find? (λr=>Nat.beq r.i u)=fnd l u
 |[]=>rfl
 |r::l=>by rw[List.find?_cons,fnd,XR u l];cases Nat.beq r.i u<;>rfl
noncomputable def tmO:Option (Tr V)->Option Rs->Option (Tr V)
 |some tm,some r=>some (FD tm r.d r.v)
 |_,_=>none
def ahJ(bV:Tr V)(res:List Rs):JB bV res []=some bV:=rfl
def ae4(bV:Tr V)(res:List Rs)(u:Nat)(us:List Nat):JB bV res (u::us)=tmO (JB bV res us) (fnd res u):=by
 rw[JB,XR];cases JB bV res us with
 |none=>rfl
 |some tm=>
  cases fnd res u with
  |none=>rfl
  |some r=>show JA tm r.d r.v=_;rw[MF];rfl
def ahK(tm:Tr V)(i:Nat)(d:Option Nat)(v:V):tmO (some tm) (some ⟨i,d,v⟩)=some (FD tm d v):=rfl
def amH(i:Nat)(d:Option Nat)(v:V)(l:List Rs):fnd (⟨i,d,v⟩::l) i=some ⟨i,d,v⟩:=by unfold fnd;simp
def ahL(i u:Nat)(d:Option Nat)(v:V)(l:List Rs)(h:i≠u):fnd (⟨i,d,v⟩::l) u=fnd l u:=by grind[fnd,SS]
def ae5(dI tm:Tr V):F5 dI tm []=some tm:=rfl
def aaN(dI tm:Tr V)(t:Nat)(l:List Nat):F5 dI tm (t::l)=match F5 dI tm l with|some tm=>some (FD tm (some t) (dI.ah t))|none=>none:=by rfl
def arI(dI bV:Tr V)(res:List Rs)(us os:List Nat):Oe dI bV res us os=match JB bV res us with|some tm=>F5 dI tm os|none=>none:=rfl
def ahM(bV:Tr V):Lp bV []=some bV:=rfl
def ae6(bV:Tr V)(i:Nat)(d:Option Nat)(v:V)(l:List Rs):Lp bV (⟨i,d,v⟩::l)=match Lp bV l with|some tm=>some (FD tm d v)|none=>none:=by grind[Lp,MF]
def CQ(g:Option (Nat×Bool))(tm:Tr V)(A B:Prop):Prop:=match gate g tm with|some true=>A|some false=>B|none=>False
def gsV(v:V)(b:Bool)(A B:Prop):Prop:=match v with|.c (.bool c)=>(bif c==b then A else B)|.tnil=>B|_=>False
def arJ(tm:Tr V)(A B:Prop):CQ none tm A B=A:=rfl
def arK(t:Nat)(b:Bool)(tm:Tr V)(A B:Prop):CQ (some (t,b)) tm A B=gsV (tm.ah t) b A B:=by grind[CQ,gsV,gate]
def arL(A B:Prop):gsV (.c (.bool true)) true A B=A:=rfl
def arM(A B:Prop):gsV (.c (.bool true)) false A B=B:=rfl
def arN(A B:Prop):gsV (.c (.bool false)) true A B=B:=rfl
def arO(A B:Prop):gsV (.c (.bool false)) false A B=A:=rfl
def amI(b:Bool)(A B:Prop):gsV .tnil b A B=B:=rfl
def MG{p:Prop}[Decidable p]{A B:Prop}(h1:p->A)(h2:¬p->B):gsV (.c (.bool (decide p))) true A B:=by
 by_cases h:p
 .rw[be h];exact h1 h
 .rw[az h];exact h2 h
def XT{p:Prop}[Decidable p]{A B:Prop}(h1:p->B)(h2:¬p->A):gsV (.c (.bool (decide p))) false A B:=by
 by_cases h:p
 .rw[be h];exact h1 h
 .rw[az h];exact h2 h
def vY(dI bV:Tr V)(qs:List DO)(σ:St)(res:List Rs)(pd:List iR)(K:St->List Rs->List iR->Prop):Prop:=
 match yP dI bV qs σ res pd with
 |some (σ,res,pd)=>K σ res pd
 |none=>False
def amJ(dI bV:Tr V)(σ:St)(res:List Rs)(pd:List iR)(K:St->List Rs->List iR->Prop):vY dI bV [] σ res pd K=K σ res pd:=rfl
section
variable (E:Env) (pt:List (List Nat)) (dI bV:Tr V) (σ:St) (res:List Rs) (pd:List iR)
def qP(i:Nat)(us os:List Nat)(d:Option Nat)(g:Option (Nat×Bool))(op:wM)(l:List DO)(K:St->List Rs->List iR->Prop)(h:op.kind=.q):
  vY dI bV (⟨i,us,os,⟨d,g,op⟩⟩::l) σ res pd K=match Oe dI bV res us os with
   |some tm=>CQ g tm (wpOp E op tm σ λv _=>vY dI bV l σ (⟨i,d,v⟩::res) (⟨i,⟨d,g,op⟩,tm,v,true,none⟩::pd) K) (vY dI bV l σ (⟨i,d,.tnil⟩::res) (⟨i,⟨d,g,op⟩,tm,.tnil,false,none⟩::pd) K)
   |none=>False:=by
 unfold vY CQ
 rw[yP]
 dsimp only
 cases Oe dI bV res us os with
 |none=>rfl
 |some tm=>
  dsimp only
  have hc:∀g l,op≠.call g l:=λg l e=>by rw[e]at h;cases h
  grind[iF,Hu]
def ae7(i:Nat)(us os:List Nat)(d:Option Nat)(g:Option (Nat×Bool))(z:List B)(l:List DO)(K:St->List Rs->List iR->Prop):
  vY dI bV (⟨i,us,os,⟨d,g,.alloc z⟩⟩::l) σ res pd K=match Oe dI bV res us os with
   |some tm=>CQ g tm (vY dI bV l ⟨hset σ.h σ.aj ⟨z,none⟩,σ.aj+1⟩ (⟨i,d,.c (.ptr σ.aj 0)⟩::res) (⟨i,⟨d,g,.alloc z⟩,tm,.c (.ptr σ.aj 0),true,some σ.aj⟩::pd) K)
    (vY dI bV l σ (⟨i,d,.tnil⟩::res) (⟨i,⟨d,g,.alloc z⟩,tm,.tnil,false,none⟩::pd) K)
   |none=>False:=by
 unfold vY CQ
 rw[yP]
 dsimp only
 cases Oe dI bV res us os with
 |none=>rfl
 |some tm=>
  grind[wM.kind,oz,lT]
def amK(i:Nat)(us os:List Nat)(d:Option Nat)(g:Option (Nat×Bool))(x:O)(l:List DO)(K:St->List Rs->List iR->Prop):
  vY dI bV (⟨i,us,os,⟨d,g,.box x⟩⟩::l) σ res pd K=match Oe dI bV res us os with
   |some tm=>CQ g tm (match(x.ev tm).cells with
    |some z=>vY dI bV l ⟨hset σ.h σ.aj ⟨z,none⟩,σ.aj+1⟩ (⟨i,d,.c (.ptr σ.aj 0)⟩::res) (⟨i,⟨d,g,.box x⟩,tm,.c (.ptr σ.aj 0),true,some σ.aj⟩::pd) K
    |none=>False) (vY dI bV l σ (⟨i,d,.tnil⟩::res) (⟨i,⟨d,g,.box x⟩,tm,.tnil,false,none⟩::pd) K)
   |none=>False:=by
 unfold vY CQ
 rw[yP]
 dsimp only
 cases Oe dI bV res us os with
 |none=>rfl
 |some tm=>
  grind[wM.kind,oz,lT]
def amL(i:Nat)(us os:List Nat)(d:Option Nat)(g:Option (Nat×Bool))(e n:Nat)(z:List B)(ps:List (Nat×Nat×O))(l:List DO)(K:St->List Rs->List iR->Prop)(hn:n*e<=16777216)(hn2:n<=16777216):
  vY dI bV (⟨i,us,os,⟨d,g,.bsl e n z ps⟩⟩::l) σ res pd K=match Oe dI bV res us os with
   |some tm=>CQ g tm (match Dk (rep z n) (ps.map λp=>(p.1,p.2.1,p.2.2.ev tm))with
    |some c=>vY dI bV l ⟨hset σ.h σ.aj ⟨c,none⟩,σ.aj+1⟩ (⟨i,d,.c (.sl σ.aj 0 n (.ex n))⟩::res) (⟨i,⟨d,g,.bsl e n z ps⟩,tm,.c (.sl σ.aj 0 n (.ex n)),true,some σ.aj⟩::pd) K
    |none=>False) (vY dI bV l σ (⟨i,d,.tnil⟩::res) (⟨i,⟨d,g,.bsl e n z ps⟩,tm,.tnil,false,none⟩::pd) K)
   |none=>False:=by
 unfold vY CQ
 rw[yP]
 dsimp only
 cases Oe dI bV res us os with
 |none=>rfl
 |some tm=>
  grind[wM.kind,oz,xZ,lT]
def agn(σ:St):List iR->Prop
 |[]=>True
 |p::l=>again σ p=true/\agn σ l
theorem U8(σ:St):∀l:List iR,(l.all (again σ)=true)=agn σ l
 |[]=>by simp[agn]
 |p::l=>by rw[cD,af,U8 σ l];rfl
def amM(σ:St):agn σ []=True:=rfl
def ahN(σ:St)(p:iR)(l:List iR):agn σ (p::l)=(again σ p=true/\agn σ l):=rfl
def ae8(l:List Nat):List iR->List iR
 |[]=>[]
 |p::pd=>bif l.contains p.i then ae8 l pd else p::ae8 l pd
theorem ahO(l:List Nat):∀pd:List iR,pd.filter (λp=>!(l.contains p.i))=ae8 l pd
 |[]=>rfl
 |p::pd=>by rw[List.filter_cons,ae8,ahO l pd];cases l.contains p.i<;>rfl
def amN(qs:List DO)(Q:Tr V->St->Prop):XD E pt dI bV (.fin qs) σ res pd Q=vY dI bV qs σ res pd λσ res pd=>agn σ pd/\(match Lp bV res with|some tm=>Q tm σ|none=>False):=by grind[XD,vY,U8]
def amO(qs:List DO)(i:Nat)(us os:List Nat)(d:Option Nat)(g:Option (Nat×Bool))(op:wM)(r:Dr)(Q:Tr V->St->Prop):
  XD E pt dI bV (.act qs ⟨i,us,os,⟨d,g,op⟩⟩ r) σ res pd Q=vY dI bV qs σ res pd λσ res pd=>agn σ pd/\(match Oe dI bV res us os with
   |some tm=>wpG E ⟨d,g,op⟩ tm σ λv σ'=>XD E pt dI bV r σ' (⟨i,d,v⟩::res) (ae8 (pt.getD i []) pd) Q
   |none=>False):=by
 grind[XD,vY,U8,ahO]
def ahP(b:B):aey b b=b.kn:=by
 cases b<;>simp[aey,B.kn]
 case int k n=>cases n<;>simp[eqI]
 case sl b o n c=>cases c<;>simp[eqC]
def aaO:∀l:List B,Oc l l=l.all B.kn
 |[]=>rfl
 |b::l=>by rw[cD];unfold Oc;rw[ahP b,aaO l]
def amP(l:List B):eqV (.agg l) (.agg l)=l.all B.kn:=aaO l
def avZ(b:B):eqV (.c b) (.c b)=b.kn:=ahP b
def jh(i:Nat)(d:Option Nat)(g9:Option (Nat×Bool))(op:wM)(tm:Tr V)(v:V)(h:op.kind=.q)(h2:op.looks=false):again σ ⟨i,⟨d,g9,op⟩,tm,v,true,none⟩=true:=by grind[again]
def aaP(i:Nat)(d:Option Nat)(g9:Option (Nat×Bool))(n:Nat)(g:Bool)(x:O)(tm:Tr V)(v:V):again σ ⟨i,⟨d,g9,.load n g x⟩,tm,v,true,none⟩=match(match x.ev tm with|.c (.ptr b o)=>ld σ.h b o n g|_=>none)with|some u=>eqV u v|none=>false:=by rfl
def XU(i:Nat)(d:Option Nat)(g9:Option (Nat×Bool))(z:List B)(tm:Tr V)(v:V)(b:Nat):again σ ⟨i,⟨d,g9,.alloc z⟩,tm,v,true,some b⟩=match σ.h b with|some ⟨c,none⟩=>Oc c z|_=>false:=by rfl
def ae9(i:Nat)(d:Option Nat)(g9:Option (Nat×Bool))(e n:Nat)(z:List B)(ps:List (Nat×Nat×O))(tm:Tr V)(v:V)(b:Nat)(hn:n*e<=16777216)(hn2:n<=16777216):again σ ⟨i,⟨d,g9,.bsl e n z ps⟩,tm,v,true,some b⟩=match Dk (rep z n) (ps.map λp=>(p.1,p.2.1,p.2.2.ev tm))with|some z=>(match σ.h b with|some ⟨c,none⟩=>Oc c z|_=>false)|none=>false:=by grind[again,wM.kind,oz,xZ]
end
def amQ(σ:St)(i:Nat)(o:AO)(tm:Tr V)(v:V)(nm:Option Nat):again σ ⟨i,o,tm,v,false,nm⟩=true:=rfl
section
def E0:Env:=⟨λ_=>none,λ_ _ _=>none⟩
variable (dI bV tm:Tr V) (σ:St) (res:List Rs) (pd:List iR) (i:Nat) (us os:List Nat) (d:Option Nat) (g9:Option (Nat×Bool)) (l:List DO) (K:St→List Rs→List iR→Prop) (v:V)
def qR(g:Option (Nat×Bool))(dI bV:Tr V)(res:List Rs)(us os:List Nat)(σ:St)(pd:List iR)(i:Nat)(d:Option Nat)(op:wM)(l:List DO)(K:St->List Rs->List iR->Prop):Prop:=match Oe dI bV res us os with
 |some tm=>CQ g tm (wpOp E0 op tm σ λv _=>vY dI bV l σ (⟨i,d,v⟩::res) (⟨i,⟨d,g,op⟩,tm,v,true,none⟩::pd) K) (vY dI bV l σ (⟨i,d,.tnil⟩::res) (⟨i,⟨d,g,op⟩,tm,.tnil,false,none⟩::pd) K)
 |none=>False
def av1(g:Option (Nat×Bool))(dI bV:Tr V)(res:List Rs)(us os:List Nat)(σ:St)(pd:List iR)(i:Nat)(d:Option Nat)(op:wM)(l:List DO)(K:St->List Rs->List iR->Prop):qR g dI bV res us os σ pd i d op l K=match Oe dI bV res us os with
 |some tm=>CQ g tm (wpOp E0 op tm σ λv _=>vY dI bV l σ (⟨i,d,v⟩::res) (⟨i,⟨d,g,op⟩,tm,v,true,none⟩::pd) K) (vY dI bV l σ (⟨i,d,.tnil⟩::res) (⟨i,⟨d,g,op⟩,tm,.tnil,false,none⟩::pd) K)
 |none=>False:=rfl
def arP(x:O):vY dI bV (⟨i,us,os,⟨d,g9,.mov x⟩⟩::l) σ res pd K=qR g9 dI bV res us os σ pd i d (.mov x) l K:=qP E0 _ _ _ _ _ _ _ _ _ _ _ _ _ rfl
def arQ(x:O):again σ ⟨i,⟨d,g9,.mov x⟩,tm,v,true,none⟩=true:=jh _ _ _ _ _ _ _ rfl rfl
def amR(c a b:O):vY dI bV (⟨i,us,os,⟨d,g9,.pick c a b⟩⟩::l) σ res pd K=qR g9 dI bV res us os σ pd i d (.pick c a b) l K:=qP E0 _ _ _ _ _ _ _ _ _ _ _ _ _ rfl
def amS(c a b:O):again σ ⟨i,⟨d,g9,.pick c a b⟩,tm,v,true,none⟩=true:=jh _ _ _ _ _ _ _ rfl rfl
def amT(n:Nat)(g:Bool)(x:O):vY dI bV (⟨i,us,os,⟨d,g9,.load n g x⟩⟩::l) σ res pd K=qR g9 dI bV res us os σ pd i d (.load n g x) l K:=qP E0 _ _ _ _ _ _ _ _ _ _ _ _ _ rfl
def ahQ(n:Nat)(x:O):vY dI bV (⟨i,us,os,⟨d,g9,.Dj n x⟩⟩::l) σ res pd K=qR g9 dI bV res us os σ pd i d (.Dj n x) l K:=qP E0 _ _ _ _ _ _ _ _ _ _ _ _ _ rfl
def ahR(n:Nat)(x:O):again σ ⟨i,⟨d,g9,.Dj n x⟩,tm,v,true,none⟩=true:=jh _ _ _ _ _ _ _ rfl rfl
def ahS(o n:Nat)(g:Bool)(x:O):vY dI bV (⟨i,us,os,⟨d,g9,.field o n g x⟩⟩::l) σ res pd K=qR g9 dI bV res us os σ pd i d (.field o n g x) l K:=qP E0 _ _ _ _ _ _ _ _ _ _ _ _ _ rfl
def ahT(o n:Nat)(g:Bool)(x:O):again σ ⟨i,⟨d,g9,.field o n g x⟩,tm,v,true,none⟩=true:=jh _ _ _ _ _ _ _ rfl rfl
def ahU(e:Nat)(x j:O):vY dI bV (⟨i,us,os,⟨d,g9,.FY e x j⟩⟩::l) σ res pd K=qR g9 dI bV res us os σ pd i d (.FY e x j) l K:=qP E0 _ _ _ _ _ _ _ _ _ _ _ _ _ rfl
def ahV(e:Nat)(x j:O):again σ ⟨i,⟨d,g9,.FY e x j⟩,tm,v,true,none⟩=true:=jh _ _ _ _ _ _ _ rfl rfl
def arR(n:Nat)(x:O):vY dI bV (⟨i,us,os,⟨d,g9,.ext n x⟩⟩::l) σ res pd K=qR g9 dI bV res us os σ pd i d (.ext n x) l K:=qP E0 _ _ _ _ _ _ _ _ _ _ _ _ _ rfl
def arS(n:Nat)(x:O):again σ ⟨i,⟨d,g9,.ext n x⟩,tm,v,true,none⟩=true:=jh _ _ _ _ _ _ _ rfl rfl
def arT(b:BinOp)(x y:O):vY dI bV (⟨i,us,os,⟨d,g9,.bin b x y⟩⟩::l) σ res pd K=qR g9 dI bV res us os σ pd i d (.bin b x y) l K:=qP E0 _ _ _ _ _ _ _ _ _ _ _ _ _ rfl
def arU(b:BinOp)(x y:O):again σ ⟨i,⟨d,g9,.bin b x y⟩,tm,v,true,none⟩=true:=jh _ _ _ _ _ _ _ rfl rfl
def arV(p:Bool)(x y:O):vY dI bV (⟨i,us,os,⟨d,g9,.eqb p x y⟩⟩::l) σ res pd K=qR g9 dI bV res us os σ pd i d (.eqb p x y) l K:=qP E0 _ _ _ _ _ _ _ _ _ _ _ _ _ rfl
def arW(p:Bool)(x y:O):again σ ⟨i,⟨d,g9,.eqb p x y⟩,tm,v,true,none⟩=true:=jh _ _ _ _ _ _ _ rfl rfl
def ahW(p:Bool)(x y:O):vY dI bV (⟨i,us,os,⟨d,g9,.FZ p x y⟩⟩::l) σ res pd K=qR g9 dI bV res us os σ pd i d (.FZ p x y) l K:=qP E0 _ _ _ _ _ _ _ _ _ _ _ _ _ rfl
def ahX(p:Bool)(x y:O):again σ ⟨i,⟨d,g9,.FZ p x y⟩,tm,v,true,none⟩=true:=jh _ _ _ _ _ _ _ rfl rfl
def ahY(p:Bool)(x y:O):vY dI bV (⟨i,us,os,⟨d,g9,.Ij p x y⟩⟩::l) σ res pd K=qR g9 dI bV res us os σ pd i d (.Ij p x y) l K:=qP E0 _ _ _ _ _ _ _ _ _ _ _ _ _ rfl
def ahZ(p:Bool)(x y:O):again σ ⟨i,⟨d,g9,.Ij p x y⟩,tm,v,true,none⟩=true:=jh _ _ _ _ _ _ _ rfl rfl
def arX(k:Nat)(p:Bool)(x:O):vY dI bV (⟨i,us,os,⟨d,g9,.nil k p x⟩⟩::l) σ res pd K=qR g9 dI bV res us os σ pd i d (.nil k p x) l K:=qP E0 _ _ _ _ _ _ _ _ _ _ _ _ _ rfl
def arY(k:Nat)(p:Bool)(x:O):again σ ⟨i,⟨d,g9,.nil k p x⟩,tm,v,true,none⟩=true:=jh _ _ _ _ _ _ _ rfl rfl
def arZ(x:O):vY dI bV (⟨i,us,os,⟨d,g9,.not x⟩⟩::l) σ res pd K=qR g9 dI bV res us os σ pd i d (.not x) l K:=qP E0 _ _ _ _ _ _ _ _ _ _ _ _ _ rfl
def ar0(x:O):again σ ⟨i,⟨d,g9,.not x⟩,tm,v,true,none⟩=true:=jh _ _ _ _ _ _ _ rfl rfl
def amU(k:IntKind)(x:O):vY dI bV (⟨i,us,os,⟨d,g9,.conv k x⟩⟩::l) σ res pd K=qR g9 dI bV res us os σ pd i d (.conv k x) l K:=qP E0 _ _ _ _ _ _ _ _ _ _ _ _ _ rfl
def amV(k:IntKind)(x:O):again σ ⟨i,⟨d,g9,.conv k x⟩,tm,v,true,none⟩=true:=jh _ _ _ _ _ _ _ rfl rfl
def ah0(z:List B)(ps:List (Nat×Nat×O)):vY dI bV (⟨i,us,os,⟨d,g9,.build z ps⟩⟩::l) σ res pd K=qR g9 dI bV res us os σ pd i d (.build z ps) l K:=qP E0 _ _ _ _ _ _ _ _ _ _ _ _ _ rfl
def ah1(z:List B)(ps:List (Nat×Nat×O)):again σ ⟨i,⟨d,g9,.build z ps⟩,tm,v,true,none⟩=true:=jh _ _ _ _ _ _ _ rfl rfl
def amW(f:Nat)(cs:List O):vY dI bV (⟨i,us,os,⟨d,g9,.QY f cs⟩⟩::l) σ res pd K=qR g9 dI bV res us os σ pd i d (.QY f cs) l K:=qP E0 _ _ _ _ _ _ _ _ _ _ _ _ _ rfl
def amX(f:Nat)(cs:List O):again σ ⟨i,⟨d,g9,.QY f cs⟩,tm,v,true,none⟩=true:=jh _ _ _ _ _ _ _ rfl rfl
def ar1(x:O):vY dI bV (⟨i,us,os,⟨d,g9,.len x⟩⟩::l) σ res pd K=qR g9 dI bV res us os σ pd i d (.len x) l K:=qP E0 _ _ _ _ _ _ _ _ _ _ _ _ _ rfl
def ar2(x:O):again σ ⟨i,⟨d,g9,.len x⟩,tm,v,true,none⟩=true:=jh _ _ _ _ _ _ _ rfl rfl
def ah2(e:Nat)(x:O)(lo hi mx:Option O):vY dI bV (⟨i,us,os,⟨d,g9,.slice e x lo hi mx⟩⟩::l) σ res pd K=qR g9 dI bV res us os σ pd i d (.slice e x lo hi mx) l K:=qP E0 _ _ _ _ _ _ _ _ _ _ _ _ _ rfl
def ah3(e:Nat)(x:O)(lo hi mx:Option O):again σ ⟨i,⟨d,g9,.slice e x lo hi mx⟩,tm,v,true,none⟩=true:=jh _ _ _ _ _ _ _ rfl rfl
def amY(x:O):vY dI bV (⟨i,us,os,⟨d,g9,.QZ x⟩⟩::l) σ res pd K=qR g9 dI bV res us os σ pd i d (.QZ x) l K:=qP E0 _ _ _ _ _ _ _ _ _ _ _ _ _ rfl
def amZ(x:O):again σ ⟨i,⟨d,g9,.QZ x⟩,tm,v,true,none⟩=true:=jh _ _ _ _ _ _ _ rfl rfl
def am0(x y:O):vY dI bV (⟨i,us,os,⟨d,g9,.min2 x y⟩⟩::l) σ res pd K=qR g9 dI bV res us os σ pd i d (.min2 x y) l K:=qP E0 _ _ _ _ _ _ _ _ _ _ _ _ _ rfl
def am1(x y:O):again σ ⟨i,⟨d,g9,.min2 x y⟩,tm,v,true,none⟩=true:=jh _ _ _ _ _ _ _ rfl rfl
end
def ar4{E:Env}{tm:Tr V}{σ:St}{Q:AX->Tr V->St->Prop}{d:Dr}{pt:List (List Nat)}{ds:List Nat}(h:XD E pt tm (aaM tm ds) d σ [] [] λtm' σ'=>Q .normal tm' σ'):bM E (.drawn d pt ds) tm σ Q:=
 aeO _ (JK tm ds) h
section
variable {E:Env}
theorem am2{n:Nat}{op:wM}{tm:Tr V}{σ σ':St}{v:V}{K:V->St->Prop}(h:qh (jc E n) op tm σ=some (v,σ'))(hk:K v σ'):wpOp E op tm σ K:=by
 unfold wpOp;split
 .next g args=>
  unfold qh at h;simp only[wM.kind]at h;split at h
  .next f a e=>
   unfold acB at e;cases hg:g.ev tm with
   |fn f' caps=>
    dsimp only at e
    rw[hg]at e
    obtain⟨rfl,rfl⟩:=Prod.mk.inj (et e)
    exact⟨n,v,σ',h,hk⟩
   |_=>grind
  .cases h
 .next hne=>
  have e:qh (λ_ _ _=>none) op tm σ=qh (jc E n) op tm σ:=by
   unfold qh;cases hk2:op.kind with
   |c=>cases op<;>simp only[wM.kind,reduceCtorEq]at hk2;grind
   |_=>rfl
  grind
def ah4{n:Nat}{o:AO}{tm:Tr V}{σ σ':St}{v:V}{K:V->St->Prop}(h:stepG (jc E n) o tm σ=some (v,σ'))(hk:K v σ'):wpG E o tm σ K:=by grind[wpG,stepG,am2]
theorem XV{n:Nat}:∀{l:List AO}{tm tm':Tr V}{σ σ':St}{Q:Tr V->St->Prop},uw (jc E n) l tm σ=some (tm',σ')->Q tm' σ'->wpOps E l tm σ Q
 |[],_,_,_,_,_,h,hq=>by cases h;exact hq
 |o::l,tm,tm',σ,σ',Q,h,hq=>by
  unfold uw at h;split at h
  .next v σ1 e=>
   rw[MF]at h;exact ah4 e (XV h hq)
  .cases h
theorem ah5{n:Nat}{pt:List (List Nat)}{dI bV:Tr V}:∀{d:Dr}{σ σ':St}{res:List Rs}{pd:List iR}{tm':Tr V}{Q:Tr V->St->Prop},Dl (jc E n) pt dI bV d σ res pd=some (tm',σ')->Q tm' σ'->XD E pt dI bV d σ res pd Q
 |.fin qs,σ,σ',res,pd,tm',Q,h,hq=>by grind[Go.Proofs.Xe.Dl,Go.Proofs.Xe.XD]
 |.act qs x r,σ,σ',res,pd,tm',Q,h,hq=>by
  unfold Dl at h;unfold XD;split at h
  .next σ1 res1 pd1 e=>
   rw[e];dsimp only;cases hb:pd1.all (again σ1)with
   |false=>rw[hb]at h;cases h
   |true=>
    rw[hb]at h
    simp only[cj]at h
    refine⟨rfl,?_⟩
    split at h
    .next Xv e2=>
     rw[e2]
     dsimp only
     split at h
     .next v σ2 e3=>exact ah4 e3 (ah5 h hq)
     .cases h
    .cases h
  .cases h
end
section
variable (E:Env) (tm:Tr V) (σ:St) (Q:AX→Tr V→St→Prop)
def ar5(l:List AO):bM E (.ops l) tm σ Q=wpOps E l tm σ λtm' σ'=>Q .normal tm' σ':=by
 refine propext ⟨?_,amq⟩;rintro⟨n,e,tm',σ',h,hq⟩;cases n with
 |zero=>grind[exec]
 |succ n=>
  simp only[exec,Xi]at h
  grind[XV]
def av2(d:Dr)(pt:List (List Nat))(ds:List Nat):bM E (.drawn d pt ds) tm σ Q=XD E pt tm (aaM tm ds) d σ [] [] λtm' σ'=>Q .normal tm' σ':=by
 refine propext ⟨?_,ar4⟩;rintro⟨n,e,tm',σ',h,hq⟩;cases n with
 |zero=>grind[exec]
 |succ n=>
  simp only[exec,xDr,Xi,JK]at h
  grind[ah5]
def seq_eq(a b:AC):bM E (.seq a b) tm σ Q=bM E a tm σ (U5 E b Q):=by
 refine propext ⟨?_,run_seq⟩;rintro⟨n,e,tm',σ',h,hq⟩;cases n with
 |zero=>grind[exec]
 |succ n=>
  rw[exec]at h
  cases hx:exec E n a tm σ with
  |none=>rw[hx]at h;cases h
  |some q=>
   rw[hx]at h
   obtain⟨e1,JG,σ1⟩:=q
   refine⟨n,e1,JG,σ1,hx,?_⟩
   cases e1 with
   |normal=>exact⟨n,e,tm',σ',h,hq⟩
   |exit i=>cases h;exact hq
   |ret=>cases h;exact hq
def ah6(i:Nat)(a:AC):bM E (.block i a) tm σ Q=bM E a tm σ (ahy i Q):=by
 refine propext ⟨?_,ER⟩;rintro⟨n,e,tm',σ',h,hq⟩;cases n with
 |zero=>grind[exec]
 |succ n=>
  rw[exec]at h
  cases hx:exec E n a tm σ with
  |none=>rw[hx]at h;cases h
  |some q=>
   rw[hx]at h
   obtain⟨e1,JG,σ1⟩:=q
   refine⟨n,e1,JG,σ1,hx,?_⟩
   cases e1 with
   |normal=>cases h;exact hq
   |exit j=>cases h;exact hq
   |ret=>cases h;exact hq
def am3:bM E .skip tm σ Q=Q .normal tm σ:=by
 refine propext ⟨?_,XB⟩;rintro⟨n,e,tm',σ',h,hq⟩;cases n with
 |zero=>grind[exec]
 |succ n=>grind[exec]
def am4(i:Nat):bM E (.exit i) tm σ Q=Q (.exit i) tm σ:=by
 refine propext ⟨?_,ahw⟩;rintro⟨n,e,tm',σ',h,hq⟩;cases n with
 |zero=>grind[exec]
 |succ n=>grind[exec]
def ar6:bM E .ret tm σ Q=Q .ret tm σ:=by
 refine propext ⟨?_,amn⟩;rintro⟨n,e,tm',σ',h,hq⟩;cases n with
 |zero=>grind[exec]
 |succ n=>grind[exec]
def ifV(v:V)(P:Bool->Prop):Prop:=match v with|.c (.bool t)=>P t|_=>False
def am5(x:O)(a b:AC):bM E (.cond x a b) tm σ Q=ifV (x.ev tm) λt=>bM E (bif t then a else b) tm σ Q:=by
 refine propext ⟨?_,λh=>?_⟩
 .rintro⟨n,e,tm',σ',h,hq⟩;cases n with
  |zero=>grind[exec]
  |succ n=>
   simp only[exec,acD]at h
   split at h
   .next t e=>rw[e];exact⟨n,_,_,_,h,hq⟩
   .cases h
 .unfold ifV at h;grind[ahx]
def ar7(a b:AC):bM E (bif true then a else b) tm σ Q=bM E a tm σ Q:=rfl
def ar8(a b:AC):bM E (bif false then a else b) tm σ Q=bM E b tm σ Q:=rfl
def am6(a b:AC):bM E (bif !true then a else b) tm σ Q=bM E b tm σ Q:=rfl
def am7(a b:AC):bM E (bif !false then a else b) tm σ Q=bM E a tm σ Q:=rfl
def ah7(n:Nat)(b:AC)(r:List (Nat×Option (Nat×Bool))):bM E (AF.body ⟨n,b,r⟩) tm σ Q=bM E b tm σ Q:=rfl
def ah8(P:Bool->Prop):ifV (.c (.bool true)) P=P true:=rfl
def afa(P:Bool->Prop):ifV (.c (.bool false)) P=P false:=rfl
def am8(b:Bool)(P:Bool->Prop):ifV (.c (.bool (!b))) P=ifV (.c (.bool b)) λt=>P (!t):=rfl
def aH{p:Prop}[Decidable p]{P:Bool->Prop}(h1:p->P true)(h2:¬p->P false):ifV (.c (.bool (decide p))) P:=by
 show P (decide p);by_cases h:p
 .grind
 grind
def av3{b:Bool}{P:Bool->Prop}(h1:b=true->P true)(h2:b=false->P false):ifV (.c (.bool b)) P:=by
 show P b;cases b with
 |true=>grind
 |false=>grind
def tick:Prop:=∀n:Nat,n=n
def afb:tick=True:=propext ⟨λ_=>trivial,λ_ _=>rfl⟩
@[congr] theorem auV {z:Prop} {v v' : V} {P:Bool→Prop} (hz:tick=z) (h:v=v'):ifV v P=ifV v' P:=by rw [h]
@[congr] theorem auW {z:Prop} {v v' : Option V} {P:V→Prop} (hz:tick=z) (h:v=v'):Hu v P=Hu v' P:=by rw [h]
@[congr] theorem asa {z:Prop} {c:AC} {tm tm' : Tr V} {σ σ' : St} {Q:AX→Tr V→St→Prop} (hz:tick=z) (h:tm=tm') (h2:σ=σ'):bM E c tm σ Q=bM E c tm' σ' Q:=by rw [h,h2]
@[congr] theorem ap3 {z:Prop} {c:List AO} {tm tm' : Tr V} {σ σ' : St} {Q:Tr V→St→Prop} (hz:tick=z) (h:tm=tm') (h2:σ=σ'):wpOps E c tm σ Q=wpOps E c tm' σ' Q:=by rw [h,h2]
@[congr] theorem auX {z:Prop} {c:AO} {tm tm' : Tr V} {σ σ' : St} {Q:V→St→Prop} (hz:tick=z) (h:tm=tm') (h2:σ=σ'):wpG E c tm σ Q=wpG E c tm' σ' Q:=by rw [h,h2]
@[congr] theorem asb {z:Prop} {c:wM} {tm tm' : Tr V} {σ σ' : St} {Q:V→St→Prop} (hz:tick=z) (h:tm=tm') (h2:σ=σ'):wpOp E c tm σ Q=wpOp E c tm' σ' Q:=by rw [h,h2]
@[congr] theorem ap4 {z:Prop} {f:Nat} {a a' : List V} {σ σ' : St} {Q:V→St→Prop} (hz:tick=z) (h:a=a') (h2:σ=σ'):aC E f a σ Q=aC E f a' σ' Q:=by rw [h,h2]
@[congr] theorem auY {z:Prop} {dI bV:Tr V} {qs:List DO} {σ σ' : St} {res res' : List Rs} {pd pd' : List iR} {K:St→List Rs→List iR→Prop} (hz:tick=z) (h2:σ=σ') (h3:res=res') (h4:pd=pd'):vY dI bV qs σ res pd K=vY dI bV qs σ' res' pd' K:=by grind
@[congr] theorem auZ {z:Prop} {pt:List (List Nat)} {dI bV:Tr V} {d:Dr} {σ σ' : St} {res res' : List Rs} {pd pd' : List iR} {K:Tr V→St→Prop} (hz:tick=z) (h2:σ=σ') (h3:res=res') (h4:pd=pd'):XD E pt dI bV d σ res pd K=XD E pt dI bV d σ' res' pd' K:=by grind
@[congr] theorem au0 {z:Prop} {σ σ' : St} {pd pd' : List iR} (hz:tick=z) (h:σ=σ') (h2:pd=pd'):agn σ pd=agn σ' pd':=by rw [h,h2]
@[congr] theorem asc {z:Prop} {i i' : Nat} {o:AO} {tm:Tr V} {v:V} {g:Bool} {nm:Option Nat} (hz:tick=z) (h:i=i'):iR.mk i o tm v g nm=iR.mk i' o tm v g nm:=by rw [h]
@[congr] theorem ap5 {z:Prop} {σ σ' : St} {p:iR} (hz:tick=z) (h:σ=σ'):again σ p=again σ' p:=by rw [h]
@[congr] theorem au1 {z:Prop} {dI bV:Tr V} {res:List Rs} {us us' os:List Nat} (hz:tick=z) (h:us=us'):Oe dI bV res us os=Oe dI bV res us' os:=by rw [h]
@[congr] theorem ase {z:Prop} {bV:Tr V} {res:List Rs} {us us' : List Nat} (hz:tick=z) (h:us=us'):JB bV res us=JB bV res us':=by rw [h]
@[congr] theorem au2 {z:Prop} {res:List Rs} {u u' : Nat} (hz:tick=z) (h:u=u'):fnd res u=fnd res u':=by rw [h]
@[congr] theorem ap6 {z:Prop} {dI tm:Tr V} {os os' : List Nat} (hz:tick=z) (h:os=os'):F5 dI tm os=F5 dI tm os':=by rw [h]
@[congr] theorem asf {z:Prop} {g:Option (Nat×Bool)} {tm:Tr V} {A B:Prop} (hz:tick=z):CQ g tm A B=CQ g tm A B:=rfl
@[congr] theorem au3 {z:Prop} {v v' : V} {b:Bool} {A B:Prop} (hz:tick=z) (h:v=v'):gsV v b A B=gsV v' b A B:=by rw [h]
@[congr] theorem av4 {z:Prop} {g:Option (Nat×Bool)} {dI bV:Tr V} {res:List Rs} {us os:List Nat} {σ:St} {pd:List iR} {i:Nat} {d:Option Nat} {op:wM} {l:List DO} {K:St→List Rs→List iR→Prop} (hz:tick=z):qR g dI bV res us os σ pd i d op l K=qR g dI bV res us os σ pd i d op l K:=rfl
def am9(E:Env)(d:Option Nat)(g:Option (Nat×Bool))(op:wM)(tm:Tr V)(σ:St)(K:V->St->Prop):wpG E ⟨d,g,op⟩ tm σ K=CQ g tm (wpOp E op tm σ K) (K .tnil σ):=rfl
def asg(x:O)(K:V->St->Prop):wpOp E (.mov x) tm σ K=Hu (some (x.ev tm)) λv=>K v σ:=rfl
def ash(b:AC):U5 E b Q .normal tm σ=bM E b tm σ Q:=rfl
def asi(b:AC)(i:Nat):U5 E b Q (.exit i) tm σ=Q (.exit i) tm σ:=rfl
def asj(b:AC):U5 E b Q .ret tm σ=Q .ret tm σ:=rfl
def asl(i:Nat):ahy i Q .normal tm σ=Q .normal tm σ:=rfl
def asn(i j:Nat):ahy i Q (.exit j) tm σ=Q (bif Nat.beq j i then .normal else .exit j) tm σ:=rfl
def aso(i:Nat):ahy i Q .ret tm σ=Q .ret tm σ:=rfl
variable (I:Nat→Tr V→St→Prop) (m:Nat) (res:List (Nat×Option (Nat×Bool))) (K:V→St→Prop)
def asq:amo I m Q .normal tm σ=∃m',m'<m/\I m' tm σ:=rfl
def asr(i:Nat):amo I m Q (.exit i) tm σ=Q (.exit i) tm σ:=rfl
def asu:amo I m Q .ret tm σ=Q .ret tm σ:=rfl
def ana:aaG res K .normal tm σ=Hu (result tm σ res) λv=>K v σ:=by unfold aaG Hu;grind
def asv:aaG res K .ret tm σ=Hu (result tm σ res) λv=>K v σ:=by unfold aaG Hu;grind
end
def ah9(p q:Rat):decide (oq p q<0)=decide (p<q):=by
 by_cases h:p<q
 .rw[be h,be];exact rH.mpr h
 .rw[az h,az];exact λe=>h (rH.mp e)
def aia(tm:Tr V)(d:Nat)(v:V):Tr.get (FD tm (some d) v) d=some v:=by grind[FD,Tr.uX]
def asw(tm:Tr V)(d j:Nat)(v:V)(h:j≠d):Tr.get (FD tm (some d) v) j=Tr.get tm j:=by grind[FD,Tr.uX]
def aaQ(tm:Tr V)(σ:St):qA tm σ []=some .tnil:=rfl
def aib(tm:Tr V)(σ:St)(t:Nat)(r:List (Nat×Option (Nat×Bool))):qA tm σ ((t,none)::r)=match tm.get t,qA tm σ r with|some v,some w=>some (.aZ v w)|_,_=>none:=rfl
def aic(tm:Tr V)(σ:St)(t n:Nat)(g:Bool)(r:List (Nat×Option (Nat×Bool))):qA tm σ ((t,some (n,g))::r)=match(match tm.ah t with|.c (.ptr b o)=>ld σ.h b o n g|_=>none),qA tm σ r with|some v,some w=>some (.aZ v w)|_,_=>none:=rfl
def Fr.new1{σ:St}{h:Tr Bk}{n:Nat}{k:Bk}(hf:Fr σ ⟨h,n⟩):Fr σ ⟨hset h n k,n+1⟩:=Fr.new hf k
def Fr.set1{σ:St}{h:Tr Bk}{n b:Nat}{k:Bk}(hf:Fr σ ⟨h,n⟩)(h1:σ.aj<=b)(h2:b<n):Fr σ ⟨hset h b k,n⟩:=Fr.set hf h1 h2 k
def au{h:Tr Bk}{b:Nat}{k:Bk}(e:h b=some k)(o n:Nat)(g:Bool):ld h b o n g=bif k.rd then zO k.cells o n g else none:=by unfold ld;rw[e]
def aI{h:Tr Bk}{b:Nat}{k:Bk}(e:h b=some k)(o:Nat)(vs:List B):sto h b o vs=match bif k.pl then yN k.cells o vs else none with|some l=>some (hset h b ⟨l,k.opn⟩)|none=>none:=by grind[sto]
def plo(o:Option (Nat×Nat)):Bool:=match o with|some (0,_)=>false|_=>true
def ZP(o:Option (Nat×Nat)):Bool:=match o with|some (0,t)=>Nat.beq t 1|_=>true
def asx(k:Bk):k.pl=plo k.opn:=rfl
def OJ(k:Bk):k.rd=ZP k.opn:=rfl
def aie:plo none=true:=rfl
def aif:ZP none=true:=rfl
def ap7(e t:Nat)(h:e≠0):plo (some (e,t))=true:=by cases e with|zero=>omega|succ e=>rfl
def CB(e t:Nat)(h:e≠0):ZP (some (e,t))=true:=by cases e with|zero=>omega|succ e=>rfl
def av5:ZP (some (0,1))=true:=rfl
def aii(k:IntKind)(n:Int):B.kn (.int k n)=true:=rfl
theorem uY(b:Bool):B.kn (.bool b)=true:=rfl
theorem zW(s:ByteArray):B.kn (.str s)=true:=rfl
def asy(b o:Nat):B.kn (.ptr b o)=true:=rfl
def anb:B.kn .UK=true:=rfl
def av6(b o n:Nat)(c:Cap):B.kn (.sl b o n c)=true:=rfl
def anc:B.kn .aO=true:=rfl
def av7(b:Nat):B.kn (.mp b)=true:=rfl
def HL.kn{h:Tr Bk}{e:Nat}{v:B}{n:Nat}{G:Nat->List B}(hl:HL h e v n G):v.kn=true:=by rcases hl with⟨-,rfl⟩|⟨b,o,c,rfl,-⟩<;>rfl
def HC.kn{h:Tr Bk}{v:B}{n:Nat}{G:Nat->B}(hl:HC h v n G):v.kn=true:=by rcases hl with⟨-,rfl⟩|⟨b,o,c,rfl,-⟩<;>rfl
def av8(x:B)(l:List B)(o n:Nat):zO (x::l) o n true=bif Nat.beq (((x::l).drop o).take n).length n&&(((x::l).drop o).take n).all B.kn then some (.agg (((x::l).drop o).take n))else none:=rfl
def av9(x:B)(l:List B)(o n:Nat):zO (x::l) o n false=match(x::l).drop o with|x::_=>bif x.kn then some (.c x)else none|[]=>none:=rfl
def awc(x:B)(l vs:List B):yN (x::l) 0 vs=bif Nat.ble vs.length (x::l).length then some (vs++(x::l).drop vs.length)else none:=by rw[yN]
def awd(x:B)(l:List B)(o:Nat)(vs:List B):yN (x::l) (o+1) vs=match yN l o vs with|some r=>some (x::r)|none=>none:=by rfl
def aij(a b:Nat):(Int.ofNat a=Int.ofNat b)=(a=b):=propext ⟨Int.ofNat.inj,λe=>by rw[e]⟩
def eq_neg(a b:Nat):(Int.ofNat a=Int.negSucc b)=False:=by simp
def awe[h:Decidable True]: @decide True h=true:=by simp
def awf[h:Decidable False]: @decide False h=false:=by simp
attribute [go_sem] afb am6 am7 ar7 ar8 ah7 ae3 wpOps_cons ahG aru o_load amy amA amB arv avI arw arx arz arA avJ avK avL avM avN avO avP arB arC avQ avR avS amC amD arD avU avT avV amE Dk arE aas avW amx ae2 arF amF avX arG KP rep avY amG arH ay1 ay2 aeT amv aeU aeV aeW aeX aeY aeZ ae0 V.cells amw avH ahF ars aA ay3 ay4 cD df Bool.and_true Bool.true_and List.drop_succ_cons gn fj cH bB List.length_nil Nat.reduceAdd cK cA XQ SS xZ IE ak dt gL fq List.map_cons List.map_nil result ahE aG amN amO amJ arP amR amT ahQ ahS ahU arR arT arV ahW ahY arX arZ amU ah0 amW ar1 ah2 amY am0 ae7 amK amL arI ahJ ae4 ahK amH ahL ae5 aaN ahM ae6 ahI amM ahN arQ amS ahR ahT ahV arS arU arW ahX ahZ arY ar0 amV ah1 amX ar2 ah3 amZ am1 aaP XU ae9 amP avZ aaO ae8 List.contains_cons List.contains_nil Nat.reduceBEq Bool.or_false Bool.or_true Bool.false_or Bool.true_or cj fm List.getD_cons_zero List.getD_cons_succ am and_true am9 arJ arK arL arM arN arO amI av1 amQ asg ar5 av2 seq_eq ah6 am3 am4 ar6 am5 ah8 afa am8 ash asi asj asl asn aso asq asr asu ana asv ah9 aii uY zW asy anb av6 anc av7 av8 av9 awc awd aij eq_neg awe awf asx OJ aie aif ap7 CB av5 aia asw aaQ aib aic avE aaJ aaK ahD aeS avF avG arn ahC avC arl XM aeR XL arj XJ ark XK aeQ avD ams acJ aro XP aaL arp arq amu XO
end Go.Proofs.Xe
