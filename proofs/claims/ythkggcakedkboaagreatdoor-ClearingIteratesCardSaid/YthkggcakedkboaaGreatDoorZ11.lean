import Derived.Test.YthkggcakedkboaaGreatDoorZ10
import Derived.Attr
set_option linter.all false
namespace Go.Proofs.Xe
open Go.RowKit Go.Proofs.Ins
noncomputable def ZL(tm:Tr V):List Nat->Tr V
 |[]=>tm
 |d::l=>(ZL tm l).set d none
def Jl(tm:Tr V):∀ds,AA tm ds=some (ZL tm ds)
 |[]=>rfl
 |d::l=>by unfold AA;rw[Jl tm l];rfl
theorem abE(tm:Tr V)(j:Nat):∀ds:List Nat,ds.contains j=false->(ZL tm ds).get j=tm.get j
 |[],_=>rfl
 |d::l,h=>by rw[List.contains_cons,Bool.or_eq_false_iff]at h;show((ZL tm l).set d none).get j=_;rw[Tr.ug,ae (by simpa using h.1),abE tm j l h.2]
def agG(tm:Tr V)(ds:List Nat)(j:Nat)(h:ds.contains j=false):Tr.ah (ZL tm ds) j=Tr.ah tm j:=by grind[Tr.ah,abE]
def fnd:List Rs->Nat->Option Rs
 |[],_=>none
 |r::l,u=>bif Nat.beq r.i u then some r else fnd l u
def WM(u:Nat):∀l:List Rs,l.find? (λr=>Nat.beq r.i u)=fnd l u
 |[]=>rfl
 |r::l=>by rw[List.find?_cons,fnd,WM u l];cases Nat.beq r.i u<;>rfl
noncomputable def tmO:Option (Tr V)->Option Rs->Option (Tr V)
 |some tm,some r=>some (EL tm r.d r.v)
 |_,_=>none
def agH(bP:Tr V)(res:List Rs):Jc bP res []=some bP:=rfl
def aea(bP:Tr V)(res:List Rs)(u:Nat)(us:List Nat):Jc bP res (u::us)=tmO (Jc bP res us) (fnd res u):=by
 rw[Jc,WM];cases Jc bP res us with
 |none=>rfl
 |some tm=>
  cases fnd res u with
  |none=>rfl
  |some r=>show Jb tm r.d r.v=_;rw[KQ];rfl
def agI(tm:Tr V)(i:Nat)(d:Option Nat)(v:V):tmO (some tm) (some ⟨i,d,v⟩)=some (EL tm d v):=rfl
def alq(i:Nat)(d:Option Nat)(v:V)(l:List Rs):fnd (⟨i,d,v⟩::l) i=some ⟨i,d,v⟩:=by unfold fnd;simp
def agJ(i u:Nat)(d:Option Nat)(v:V)(l:List Rs)(h:i≠u):fnd (⟨i,d,v⟩::l) u=fnd l u:=by grind[fnd,NG]
def aeb(dI tm:Tr V):Fj dI tm []=some tm:=rfl
def ZM(dI tm:Tr V)(t:Nat)(l:List Nat):Fj dI tm (t::l)=match Fj dI tm l with|some tm=>some (EL tm (some t) (dI.ah t))|none=>none:=by rfl
def aql(dI bP:Tr V)(res:List Rs)(us os:List Nat):MR dI bP res us os=match Jc bP res us with|some tm=>Fj dI tm os|none=>none:=rfl
def agK(bP:Tr V):Ku bP []=some bP:=rfl
def aec(bP:Tr V)(i:Nat)(d:Option Nat)(v:V)(l:List Rs):Ku bP (⟨i,d,v⟩::l)=match Ku bP l with|some tm=>some (EL tm d v)|none=>none:=by grind[Ku,KQ]
def BI(g:Option (Nat×Bool))(tm:Tr V)(A B:Prop):Prop:=match gate g tm with|some true=>A|some false=>B|none=>False
def gsV(v:V)(b:Bool)(A B:Prop):Prop:=match v with|.c (.bool c)=>(bif c==b then A else B)|.tnil=>B|_=>False
def aqm(tm:Tr V)(A B:Prop):BI none tm A B=A:=rfl
def aqn(t:Nat)(b:Bool)(tm:Tr V)(A B:Prop):BI (some (t,b)) tm A B=gsV (tm.ah t) b A B:=by grind[BI,gsV,gate]
def aqo(A B:Prop):gsV (.c (.bool true)) true A B=A:=rfl
def aqp(A B:Prop):gsV (.c (.bool true)) false A B=B:=rfl
def aqr(A B:Prop):gsV (.c (.bool false)) true A B=B:=rfl
def aqs(A B:Prop):gsV (.c (.bool false)) false A B=A:=rfl
def alr(b:Bool)(A B:Prop):gsV .tnil b A B=B:=rfl
def abG{p:Prop}[Decidable p]{A B:Prop}(h1:p->A)(h2:¬p->B):gsV (.c (.bool (decide p))) true A B:=by
 by_cases h:p
 .rw[bh h];exact h1 h
 .rw[az h];exact h2 h
def WO{p:Prop}[Decidable p]{A B:Prop}(h1:p->B)(h2:¬p->A):gsV (.c (.bool (decide p))) false A B:=by
 by_cases h:p
 .rw[bh h];exact h1 h
 .rw[az h];exact h2 h
def uY(dI bP:Tr V)(qs:List DO)(σ:St)(res:List Rs)(pd:List iQ)(K:St->List Rs->List iQ->Prop):Prop:=
 match yg dI bP qs σ res pd with
 |some (σ,res,pd)=>K σ res pd
 |none=>False
def als(dI bP:Tr V)(σ:St)(res:List Rs)(pd:List iQ)(K:St->List Rs->List iQ->Prop):uY dI bP [] σ res pd K=K σ res pd:=rfl
section
variable (E:Env) (pt:List (List Nat)) (dI bP:Tr V) (σ:St) (res:List Rs) (pd:List iQ)
def qw(i:Nat)(us os:List Nat)(d:Option Nat)(g:Option (Nat×Bool))(op:vV)(l:List DO)(K:St->List Rs->List iQ->Prop)(h:op.kind=.q):
  uY dI bP (⟨i,us,os,⟨d,g,op⟩⟩::l) σ res pd K=match MR dI bP res us os with
   |some tm=>BI g tm (wpOp E op tm σ λv _=>uY dI bP l σ (⟨i,d,v⟩::res) (⟨i,⟨d,g,op⟩,tm,v,true,none⟩::pd) K) (uY dI bP l σ (⟨i,d,.tnil⟩::res) (⟨i,⟨d,g,op⟩,tm,.tnil,false,none⟩::pd) K)
   |none=>False:=by
 unfold uY BI
 rw[yg]
 dsimp only
 cases MR dI bP res us os with
 |none=>rfl
 |some tm=>
  dsimp only
  have hc:∀g l,op≠.call g l:=λg l e=>by rw[e]at h;cases h
  grind[iG,Gp]
def aed(i:Nat)(us os:List Nat)(d:Option Nat)(g:Option (Nat×Bool))(z:List B)(l:List DO)(K:St->List Rs->List iQ->Prop):
  uY dI bP (⟨i,us,os,⟨d,g,.alloc z⟩⟩::l) σ res pd K=match MR dI bP res us os with
   |some tm=>BI g tm (uY dI bP l ⟨hset σ.h σ.aj ⟨z,none⟩,σ.aj+1⟩ (⟨i,d,.c (.ptr σ.aj 0)⟩::res) (⟨i,⟨d,g,.alloc z⟩,tm,.c (.ptr σ.aj 0),true,some σ.aj⟩::pd) K)
    (uY dI bP l σ (⟨i,d,.tnil⟩::res) (⟨i,⟨d,g,.alloc z⟩,tm,.tnil,false,none⟩::pd) K)
   |none=>False:=by
 unfold uY BI
 rw[yg]
 dsimp only
 cases MR dI bP res us os with
 |none=>rfl
 |some tm=>
  grind[vV.kind,nP,jT]
def alu(i:Nat)(us os:List Nat)(d:Option Nat)(g:Option (Nat×Bool))(x:O)(l:List DO)(K:St->List Rs->List iQ->Prop):
  uY dI bP (⟨i,us,os,⟨d,g,.box x⟩⟩::l) σ res pd K=match MR dI bP res us os with
   |some tm=>BI g tm (match(x.ev tm).cells with
    |some z=>uY dI bP l ⟨hset σ.h σ.aj ⟨z,none⟩,σ.aj+1⟩ (⟨i,d,.c (.ptr σ.aj 0)⟩::res) (⟨i,⟨d,g,.box x⟩,tm,.c (.ptr σ.aj 0),true,some σ.aj⟩::pd) K
    |none=>False) (uY dI bP l σ (⟨i,d,.tnil⟩::res) (⟨i,⟨d,g,.box x⟩,tm,.tnil,false,none⟩::pd) K)
   |none=>False:=by
 unfold uY BI
 rw[yg]
 dsimp only
 cases MR dI bP res us os with
 |none=>rfl
 |some tm=>
  grind[vV.kind,nP,jT]
def alv(i:Nat)(us os:List Nat)(d:Option Nat)(g:Option (Nat×Bool))(e n:Nat)(z:List B)(ps:List (Nat×Nat×O))(l:List DO)(K:St->List Rs->List iQ->Prop)(hn:n*e<=16777216)(hn2:n<=16777216):
  uY dI bP (⟨i,us,os,⟨d,g,.bsl e n z ps⟩⟩::l) σ res pd K=match MR dI bP res us os with
   |some tm=>BI g tm (match BZ (rep z n) (ps.map λp=>(p.1,p.2.1,p.2.2.ev tm))with
    |some c=>uY dI bP l ⟨hset σ.h σ.aj ⟨c,none⟩,σ.aj+1⟩ (⟨i,d,.c (.sl σ.aj 0 n (.ex n))⟩::res) (⟨i,⟨d,g,.bsl e n z ps⟩,tm,.c (.sl σ.aj 0 n (.ex n)),true,some σ.aj⟩::pd) K
    |none=>False) (uY dI bP l σ (⟨i,d,.tnil⟩::res) (⟨i,⟨d,g,.bsl e n z ps⟩,tm,.tnil,false,none⟩::pd) K)
   |none=>False:=by
 unfold uY BI
 rw[yg]
 dsimp only
 cases MR dI bP res us os with
 |none=>rfl
 |some tm=>
  grind[vV.kind,nP,vY,jT]
def agn(σ:St):List iQ->Prop
 |[]=>True
 |p::l=>again σ p=true/\agn σ l
theorem TP(σ:St):∀l:List iQ,(l.all (again σ)=true)=agn σ l
 |[]=>by simp[agn]
 |p::l=>by rw[cU,af,TP σ l];rfl
def alx(σ:St):agn σ []=True:=rfl
def agL(σ:St)(p:iQ)(l:List iQ):agn σ (p::l)=(again σ p=true/\agn σ l):=rfl
def aee(l:List Nat):List iQ->List iQ
 |[]=>[]
 |p::pd=>bif l.contains p.i then aee l pd else p::aee l pd
theorem agM(l:List Nat):∀pd:List iQ,pd.filter (λp=>!(l.contains p.i))=aee l pd
 |[]=>rfl
 |p::pd=>by rw[List.filter_cons,aee,agM l pd];cases l.contains p.i<;>rfl
def aly(qs:List DO)(Q:Tr V->St->Prop):Wy E pt dI bP (.fin qs) σ res pd Q=uY dI bP qs σ res pd λσ res pd=>agn σ pd/\(match Ku bP res with|some tm=>Q tm σ|none=>False):=by grind[Wy,uY,TP]
def alz(qs:List DO)(i:Nat)(us os:List Nat)(d:Option Nat)(g:Option (Nat×Bool))(op:vV)(r:Dr)(Q:Tr V->St->Prop):
  Wy E pt dI bP (.act qs ⟨i,us,os,⟨d,g,op⟩⟩ r) σ res pd Q=uY dI bP qs σ res pd λσ res pd=>agn σ pd/\(match MR dI bP res us os with
   |some tm=>wpG E ⟨d,g,op⟩ tm σ λv σ'=>Wy E pt dI bP r σ' (⟨i,d,v⟩::res) (aee (pt.getD i []) pd) Q
   |none=>False):=by
 grind[Wy,uY,TP,agM]
def agN(b:B):adA b b=b.kn:=by
 cases b<;>simp[adA,B.kn]
 case int k n=>cases n<;>simp[eqI]
 case sl b o n c=>cases c<;>simp[eqC]
def ZN:∀l:List B,MQ l l=l.all B.kn
 |[]=>rfl
 |b::l=>by rw[cU];unfold MQ;rw[agN b,ZN l]
def alA(l:List B):eqV (.agg l) (.agg l)=l.all B.kn:=ZN l
def auz(b:B):eqV (.c b) (.c b)=b.kn:=agN b
def jg(i:Nat)(d:Option Nat)(g9:Option (Nat×Bool))(op:vV)(tm:Tr V)(v:V)(h:op.kind=.q)(h2:op.looks=false):again σ ⟨i,⟨d,g9,op⟩,tm,v,true,none⟩=true:=by grind[again]
def ZO(i:Nat)(d:Option Nat)(g9:Option (Nat×Bool))(n:Nat)(g:Bool)(x:O)(tm:Tr V)(v:V):again σ ⟨i,⟨d,g9,.load n g x⟩,tm,v,true,none⟩=match(match x.ev tm with|.c (.ptr b o)=>ld σ.h b o n g|_=>none)with|some u=>eqV u v|none=>false:=by rfl
def WQ(i:Nat)(d:Option Nat)(g9:Option (Nat×Bool))(z:List B)(tm:Tr V)(v:V)(b:Nat):again σ ⟨i,⟨d,g9,.alloc z⟩,tm,v,true,some b⟩=match σ.h b with|some ⟨c,none⟩=>MQ c z|_=>false:=by rfl
def aef(i:Nat)(d:Option Nat)(g9:Option (Nat×Bool))(e n:Nat)(z:List B)(ps:List (Nat×Nat×O))(tm:Tr V)(v:V)(b:Nat)(hn:n*e<=16777216)(hn2:n<=16777216):again σ ⟨i,⟨d,g9,.bsl e n z ps⟩,tm,v,true,some b⟩=match BZ (rep z n) (ps.map λp=>(p.1,p.2.1,p.2.2.ev tm))with|some z=>(match σ.h b with|some ⟨c,none⟩=>MQ c z|_=>false)|none=>false:=by grind[again,vV.kind,nP,vY]
end
def alB(σ:St)(i:Nat)(o:AO)(tm:Tr V)(v:V)(nm:Option Nat):again σ ⟨i,o,tm,v,false,nm⟩=true:=rfl
section
def E0:Env:=⟨λ_=>none,λ_ _ _=>none⟩
variable (dI bP tm:Tr V) (σ:St) (res:List Rs) (pd:List iQ) (i:Nat) (us os:List Nat) (d:Option Nat) (g9:Option (Nat×Bool)) (l:List DO) (K:St→List Rs→List iQ→Prop) (v:V)
def qR(g:Option (Nat×Bool))(dI bP:Tr V)(res:List Rs)(us os:List Nat)(σ:St)(pd:List iQ)(i:Nat)(d:Option Nat)(op:vV)(l:List DO)(K:St->List Rs->List iQ->Prop):Prop:=match MR dI bP res us os with
 |some tm=>BI g tm (wpOp E0 op tm σ λv _=>uY dI bP l σ (⟨i,d,v⟩::res) (⟨i,⟨d,g,op⟩,tm,v,true,none⟩::pd) K) (uY dI bP l σ (⟨i,d,.tnil⟩::res) (⟨i,⟨d,g,op⟩,tm,.tnil,false,none⟩::pd) K)
 |none=>False
def auA(g:Option (Nat×Bool))(dI bP:Tr V)(res:List Rs)(us os:List Nat)(σ:St)(pd:List iQ)(i:Nat)(d:Option Nat)(op:vV)(l:List DO)(K:St->List Rs->List iQ->Prop):qR g dI bP res us os σ pd i d op l K=match MR dI bP res us os with
 |some tm=>BI g tm (wpOp E0 op tm σ λv _=>uY dI bP l σ (⟨i,d,v⟩::res) (⟨i,⟨d,g,op⟩,tm,v,true,none⟩::pd) K) (uY dI bP l σ (⟨i,d,.tnil⟩::res) (⟨i,⟨d,g,op⟩,tm,.tnil,false,none⟩::pd) K)
 |none=>False:=rfl
def aqt(x:O):uY dI bP (⟨i,us,os,⟨d,g9,.mov x⟩⟩::l) σ res pd K=qR g9 dI bP res us os σ pd i d (.mov x) l K:=qw E0 _ _ _ _ _ _ _ _ _ _ _ _ _ rfl
def aqu(x:O):again σ ⟨i,⟨d,g9,.mov x⟩,tm,v,true,none⟩=true:=jg _ _ _ _ _ _ _ rfl rfl
def alC(c a b:O):uY dI bP (⟨i,us,os,⟨d,g9,.pick c a b⟩⟩::l) σ res pd K=qR g9 dI bP res us os σ pd i d (.pick c a b) l K:=qw E0 _ _ _ _ _ _ _ _ _ _ _ _ _ rfl
def alD(c a b:O):again σ ⟨i,⟨d,g9,.pick c a b⟩,tm,v,true,none⟩=true:=jg _ _ _ _ _ _ _ rfl rfl
def alE(n:Nat)(g:Bool)(x:O):uY dI bP (⟨i,us,os,⟨d,g9,.load n g x⟩⟩::l) σ res pd K=qR g9 dI bP res us os σ pd i d (.load n g x) l K:=qw E0 _ _ _ _ _ _ _ _ _ _ _ _ _ rfl
def agO(n:Nat)(x:O):uY dI bP (⟨i,us,os,⟨d,g9,.BX n x⟩⟩::l) σ res pd K=qR g9 dI bP res us os σ pd i d (.BX n x) l K:=qw E0 _ _ _ _ _ _ _ _ _ _ _ _ _ rfl
def agP(n:Nat)(x:O):again σ ⟨i,⟨d,g9,.BX n x⟩,tm,v,true,none⟩=true:=jg _ _ _ _ _ _ _ rfl rfl
def agQ(o n:Nat)(g:Bool)(x:O):uY dI bP (⟨i,us,os,⟨d,g9,.field o n g x⟩⟩::l) σ res pd K=qR g9 dI bP res us os σ pd i d (.field o n g x) l K:=qw E0 _ _ _ _ _ _ _ _ _ _ _ _ _ rfl
def agR(o n:Nat)(g:Bool)(x:O):again σ ⟨i,⟨d,g9,.field o n g x⟩,tm,v,true,none⟩=true:=jg _ _ _ _ _ _ _ rfl rfl
def agS(e:Nat)(x j:O):uY dI bP (⟨i,us,os,⟨d,g9,.Fg e x j⟩⟩::l) σ res pd K=qR g9 dI bP res us os σ pd i d (.Fg e x j) l K:=qw E0 _ _ _ _ _ _ _ _ _ _ _ _ _ rfl
def agT(e:Nat)(x j:O):again σ ⟨i,⟨d,g9,.Fg e x j⟩,tm,v,true,none⟩=true:=jg _ _ _ _ _ _ _ rfl rfl
def aqv(n:Nat)(x:O):uY dI bP (⟨i,us,os,⟨d,g9,.ext n x⟩⟩::l) σ res pd K=qR g9 dI bP res us os σ pd i d (.ext n x) l K:=qw E0 _ _ _ _ _ _ _ _ _ _ _ _ _ rfl
def aqw(n:Nat)(x:O):again σ ⟨i,⟨d,g9,.ext n x⟩,tm,v,true,none⟩=true:=jg _ _ _ _ _ _ _ rfl rfl
def aqx(b:BinOp)(x y:O):uY dI bP (⟨i,us,os,⟨d,g9,.bin b x y⟩⟩::l) σ res pd K=qR g9 dI bP res us os σ pd i d (.bin b x y) l K:=qw E0 _ _ _ _ _ _ _ _ _ _ _ _ _ rfl
def aqy(b:BinOp)(x y:O):again σ ⟨i,⟨d,g9,.bin b x y⟩,tm,v,true,none⟩=true:=jg _ _ _ _ _ _ _ rfl rfl
def aqz(p:Bool)(x y:O):uY dI bP (⟨i,us,os,⟨d,g9,.eqb p x y⟩⟩::l) σ res pd K=qR g9 dI bP res us os σ pd i d (.eqb p x y) l K:=qw E0 _ _ _ _ _ _ _ _ _ _ _ _ _ rfl
def aqA(p:Bool)(x y:O):again σ ⟨i,⟨d,g9,.eqb p x y⟩,tm,v,true,none⟩=true:=jg _ _ _ _ _ _ _ rfl rfl
def agU(p:Bool)(x y:O):uY dI bP (⟨i,us,os,⟨d,g9,.Fh p x y⟩⟩::l) σ res pd K=qR g9 dI bP res us os σ pd i d (.Fh p x y) l K:=qw E0 _ _ _ _ _ _ _ _ _ _ _ _ _ rfl
def agV(p:Bool)(x y:O):again σ ⟨i,⟨d,g9,.Fh p x y⟩,tm,v,true,none⟩=true:=jg _ _ _ _ _ _ _ rfl rfl
def agW(p:Bool)(x y:O):uY dI bP (⟨i,us,os,⟨d,g9,.GX p x y⟩⟩::l) σ res pd K=qR g9 dI bP res us os σ pd i d (.GX p x y) l K:=qw E0 _ _ _ _ _ _ _ _ _ _ _ _ _ rfl
def agX(p:Bool)(x y:O):again σ ⟨i,⟨d,g9,.GX p x y⟩,tm,v,true,none⟩=true:=jg _ _ _ _ _ _ _ rfl rfl
def aqB(k:Nat)(p:Bool)(x:O):uY dI bP (⟨i,us,os,⟨d,g9,.nil k p x⟩⟩::l) σ res pd K=qR g9 dI bP res us os σ pd i d (.nil k p x) l K:=qw E0 _ _ _ _ _ _ _ _ _ _ _ _ _ rfl
def aqC(k:Nat)(p:Bool)(x:O):again σ ⟨i,⟨d,g9,.nil k p x⟩,tm,v,true,none⟩=true:=jg _ _ _ _ _ _ _ rfl rfl
def aqD(x:O):uY dI bP (⟨i,us,os,⟨d,g9,.not x⟩⟩::l) σ res pd K=qR g9 dI bP res us os σ pd i d (.not x) l K:=qw E0 _ _ _ _ _ _ _ _ _ _ _ _ _ rfl
def aqE(x:O):again σ ⟨i,⟨d,g9,.not x⟩,tm,v,true,none⟩=true:=jg _ _ _ _ _ _ _ rfl rfl
def alF(k:IntKind)(x:O):uY dI bP (⟨i,us,os,⟨d,g9,.conv k x⟩⟩::l) σ res pd K=qR g9 dI bP res us os σ pd i d (.conv k x) l K:=qw E0 _ _ _ _ _ _ _ _ _ _ _ _ _ rfl
def alG(k:IntKind)(x:O):again σ ⟨i,⟨d,g9,.conv k x⟩,tm,v,true,none⟩=true:=jg _ _ _ _ _ _ _ rfl rfl
def agY(z:List B)(ps:List (Nat×Nat×O)):uY dI bP (⟨i,us,os,⟨d,g9,.build z ps⟩⟩::l) σ res pd K=qR g9 dI bP res us os σ pd i d (.build z ps) l K:=qw E0 _ _ _ _ _ _ _ _ _ _ _ _ _ rfl
def agZ(z:List B)(ps:List (Nat×Nat×O)):again σ ⟨i,⟨d,g9,.build z ps⟩,tm,v,true,none⟩=true:=jg _ _ _ _ _ _ _ rfl rfl
def alH(f:Nat)(cs:List O):uY dI bP (⟨i,us,os,⟨d,g9,.PU f cs⟩⟩::l) σ res pd K=qR g9 dI bP res us os σ pd i d (.PU f cs) l K:=qw E0 _ _ _ _ _ _ _ _ _ _ _ _ _ rfl
def alI(f:Nat)(cs:List O):again σ ⟨i,⟨d,g9,.PU f cs⟩,tm,v,true,none⟩=true:=jg _ _ _ _ _ _ _ rfl rfl
def aqF(x:O):uY dI bP (⟨i,us,os,⟨d,g9,.len x⟩⟩::l) σ res pd K=qR g9 dI bP res us os σ pd i d (.len x) l K:=qw E0 _ _ _ _ _ _ _ _ _ _ _ _ _ rfl
def aqG(x:O):again σ ⟨i,⟨d,g9,.len x⟩,tm,v,true,none⟩=true:=jg _ _ _ _ _ _ _ rfl rfl
def ag0(e:Nat)(x:O)(lo hi mx:Option O):uY dI bP (⟨i,us,os,⟨d,g9,.slice e x lo hi mx⟩⟩::l) σ res pd K=qR g9 dI bP res us os σ pd i d (.slice e x lo hi mx) l K:=qw E0 _ _ _ _ _ _ _ _ _ _ _ _ _ rfl
def ag1(e:Nat)(x:O)(lo hi mx:Option O):again σ ⟨i,⟨d,g9,.slice e x lo hi mx⟩,tm,v,true,none⟩=true:=jg _ _ _ _ _ _ _ rfl rfl
def alJ(x:O):uY dI bP (⟨i,us,os,⟨d,g9,.PV x⟩⟩::l) σ res pd K=qR g9 dI bP res us os σ pd i d (.PV x) l K:=qw E0 _ _ _ _ _ _ _ _ _ _ _ _ _ rfl
def alK(x:O):again σ ⟨i,⟨d,g9,.PV x⟩,tm,v,true,none⟩=true:=jg _ _ _ _ _ _ _ rfl rfl
def alL(x y:O):uY dI bP (⟨i,us,os,⟨d,g9,.min2 x y⟩⟩::l) σ res pd K=qR g9 dI bP res us os σ pd i d (.min2 x y) l K:=qw E0 _ _ _ _ _ _ _ _ _ _ _ _ _ rfl
def alM(x y:O):again σ ⟨i,⟨d,g9,.min2 x y⟩,tm,v,true,none⟩=true:=jg _ _ _ _ _ _ _ rfl rfl
end
def aqH{E:Env}{tm:Tr V}{σ:St}{Q:AX->Tr V->St->Prop}{d:Dr}{pt:List (List Nat)}{ds:List Nat}(h:Wy E pt tm (ZL tm ds) d σ [] [] λtm' σ'=>Q .normal tm' σ'):bF E (.drawn d pt ds) tm σ Q:=
 adR _ (Jl tm ds) h
section
variable {E:Env}
theorem alN{n:Nat}{op:vV}{tm:Tr V}{σ σ':St}{v:V}{K:V->St->Prop}(h:oW (iW E n) op tm σ=some (v,σ'))(hk:K v σ'):wpOp E op tm σ K:=by
 unfold wpOp;split
 .next g args=>
  unfold oW at h;simp only[vV.kind]at h;split at h
  .next f a e=>
   unfold abr at e;cases hg:g.ev tm with
   |fn f' caps=>
    dsimp only at e
    rw[hg]at e
    obtain⟨rfl,rfl⟩:=Prod.mk.inj (eC e)
    exact⟨n,v,σ',h,hk⟩
   |_=>grind
  .cases h
 .next hne=>
  have e:oW (λ_ _ _=>none) op tm σ=oW (iW E n) op tm σ:=by
   unfold oW;cases hk2:op.kind with
   |c=>cases op<;>simp only[vV.kind,reduceCtorEq]at hk2;grind
   |_=>rfl
  grind
def ag2{n:Nat}{o:AO}{tm:Tr V}{σ σ':St}{v:V}{K:V->St->Prop}(h:stepG (iW E n) o tm σ=some (v,σ'))(hk:K v σ'):wpG E o tm σ K:=by grind[wpG,stepG,alN]
theorem WR{n:Nat}:∀{l:List AO}{tm tm':Tr V}{σ σ':St}{Q:Tr V->St->Prop},sK (iW E n) l tm σ=some (tm',σ')->Q tm' σ'->wpOps E l tm σ Q
 |[],_,_,_,_,_,h,hq=>by cases h;exact hq
 |o::l,tm,tm',σ,σ',Q,h,hq=>by
  unfold sK at h;split at h
  .next v σ1 e=>
   rw[KQ]at h;exact ag2 e (WR h hq)
  .cases h
theorem ag3{n:Nat}{pt:List (List Nat)}{dI bP:Tr V}:∀{d:Dr}{σ σ':St}{res:List Rs}{pd:List iQ}{tm':Tr V}{Q:Tr V->St->Prop},Cb (iW E n) pt dI bP d σ res pd=some (tm',σ')->Q tm' σ'->Wy E pt dI bP d σ res pd Q
 |.fin qs,σ,σ',res,pd,tm',Q,h,hq=>by grind[Go.Proofs.Xe.Cb,Go.Proofs.Xe.Wy]
 |.act qs x r,σ,σ',res,pd,tm',Q,h,hq=>by
  unfold Cb at h;unfold Wy;split at h
  .next σ1 res1 pd1 e=>
   rw[e];dsimp only;cases hb:pd1.all (again σ1)with
   |false=>rw[hb]at h;cases h
   |true=>
    rw[hb]at h
    simp only[cC]at h
    refine⟨rfl,?_⟩
    split at h
    .next Wj e2=>
     rw[e2]
     dsimp only
     split at h
     .next v σ2 e3=>exact ag2 e3 (ag3 h hq)
     .cases h
    .cases h
  .cases h
end
section
variable (E:Env) (tm:Tr V) (σ:St) (Q:AX→Tr V→St→Prop)
def aqI(l:List AO):bF E (.ops l) tm σ Q=wpOps E l tm σ λtm' σ'=>Q .normal tm' σ':=by
 refine propext ⟨?_,ala⟩;rintro⟨n,e,tm',σ',h,hq⟩;cases n with
 |zero=>grind[exec]
 |succ n=>
  simp only[exec,VW]at h
  grind[WR]
def auB(d:Dr)(pt:List (List Nat))(ds:List Nat):bF E (.drawn d pt ds) tm σ Q=Wy E pt tm (ZL tm ds) d σ [] [] λtm' σ'=>Q .normal tm' σ':=by
 refine propext ⟨?_,aqH⟩;rintro⟨n,e,tm',σ',h,hq⟩;cases n with
 |zero=>grind[exec]
 |succ n=>
  simp only[exec,xDr,VW,Jl]at h
  grind[ag3]
def seq_eq(a b:AC):bF E (.seq a b) tm σ Q=bF E a tm σ (TK E b Q):=by
 refine propext ⟨?_,run_seq⟩;rintro⟨n,e,tm',σ',h,hq⟩;cases n with
 |zero=>grind[exec]
 |succ n=>
  rw[exec]at h
  cases hx:exec E n a tm σ with
  |none=>rw[hx]at h;cases h
  |some q=>
   rw[hx]at h
   obtain⟨e1,Jh,σ1⟩:=q
   refine⟨n,e1,Jh,σ1,hx,?_⟩
   cases e1 with
   |normal=>exact⟨n,e,tm',σ',h,hq⟩
   |exit i=>cases h;exact hq
   |ret=>cases h;exact hq
def ag4(i:Nat)(a:AC):bF E (.block i a) tm σ Q=bF E a tm σ (agw i Q):=by
 refine propext ⟨?_,Ed⟩;rintro⟨n,e,tm',σ',h,hq⟩;cases n with
 |zero=>grind[exec]
 |succ n=>
  rw[exec]at h
  cases hx:exec E n a tm σ with
  |none=>rw[hx]at h;cases h
  |some q=>
   rw[hx]at h
   obtain⟨e1,Jh,σ1⟩:=q
   refine⟨n,e1,Jh,σ1,hx,?_⟩
   cases e1 with
   |normal=>cases h;exact hq
   |exit j=>cases h;exact hq
   |ret=>cases h;exact hq
def alO:bF E .skip tm σ Q=Q .normal tm σ:=by
 refine propext ⟨?_,Wv⟩;rintro⟨n,e,tm',σ',h,hq⟩;cases n with
 |zero=>grind[exec]
 |succ n=>grind[exec]
def alP(i:Nat):bF E (.exit i) tm σ Q=Q (.exit i) tm σ:=by
 refine propext ⟨?_,agu⟩;rintro⟨n,e,tm',σ',h,hq⟩;cases n with
 |zero=>grind[exec]
 |succ n=>grind[exec]
def aqJ:bF E .ret tm σ Q=Q .ret tm σ:=by
 refine propext ⟨?_,ak8⟩;rintro⟨n,e,tm',σ',h,hq⟩;cases n with
 |zero=>grind[exec]
 |succ n=>grind[exec]
def ifV(v:V)(P:Bool->Prop):Prop:=match v with|.c (.bool t)=>P t|_=>False
def alQ(x:O)(a b:AC):bF E (.cond x a b) tm σ Q=ifV (x.ev tm) λt=>bF E (bif t then a else b) tm σ Q:=by
 refine propext ⟨?_,λh=>?_⟩
 .rintro⟨n,e,tm',σ',h,hq⟩;cases n with
  |zero=>grind[exec]
  |succ n=>
   simp only[exec,abu]at h
   split at h
   .next t e=>rw[e];exact⟨n,_,_,_,h,hq⟩
   .cases h
 .unfold ifV at h;grind[agv]
def aqK(a b:AC):bF E (bif true then a else b) tm σ Q=bF E a tm σ Q:=rfl
def aqL(a b:AC):bF E (bif false then a else b) tm σ Q=bF E b tm σ Q:=rfl
def alR(a b:AC):bF E (bif !true then a else b) tm σ Q=bF E b tm σ Q:=rfl
def alS(a b:AC):bF E (bif !false then a else b) tm σ Q=bF E a tm σ Q:=rfl
def ag5(n:Nat)(b:AC)(r:List (Nat×Option (Nat×Bool))):bF E (AF.body ⟨n,b,r⟩) tm σ Q=bF E b tm σ Q:=rfl
def ag6(P:Bool->Prop):ifV (.c (.bool true)) P=P true:=rfl
def aeg(P:Bool->Prop):ifV (.c (.bool false)) P=P false:=rfl
def alT(b:Bool)(P:Bool->Prop):ifV (.c (.bool (!b))) P=ifV (.c (.bool b)) λt=>P (!t):=rfl
def aH{p:Prop}[Decidable p]{P:Bool->Prop}(h1:p->P true)(h2:¬p->P false):ifV (.c (.bool (decide p))) P:=by
 show P (decide p);by_cases h:p
 .grind
 grind
def auC{b:Bool}{P:Bool->Prop}(h1:b=true->P true)(h2:b=false->P false):ifV (.c (.bool b)) P:=by
 show P b;cases b with
 |true=>grind
 |false=>grind
def tick:Prop:=∀n:Nat,n=n
def aeh:tick=True:=propext ⟨λ_=>trivial,λ_ _=>rfl⟩
@[congr] theorem atm {z:Prop} {v v' : V} {P:Bool→Prop} (hz:tick=z) (h:v=v'):ifV v P=ifV v' P:=by rw [h]
@[congr] theorem atn {z:Prop} {v v' : Option V} {P:V→Prop} (hz:tick=z) (h:v=v'):Gp v P=Gp v' P:=by rw [h]
@[congr] theorem aqM {z:Prop} {c:AC} {tm tm' : Tr V} {σ σ' : St} {Q:AX→Tr V→St→Prop} (hz:tick=z) (h:tm=tm') (h2:σ=σ'):bF E c tm σ Q=bF E c tm' σ' Q:=by rw [h,h2]
@[congr] theorem aoD {z:Prop} {c:List AO} {tm tm' : Tr V} {σ σ' : St} {Q:Tr V→St→Prop} (hz:tick=z) (h:tm=tm') (h2:σ=σ'):wpOps E c tm σ Q=wpOps E c tm' σ' Q:=by rw [h,h2]
@[congr] theorem ato {z:Prop} {c:AO} {tm tm' : Tr V} {σ σ' : St} {Q:V→St→Prop} (hz:tick=z) (h:tm=tm') (h2:σ=σ'):wpG E c tm σ Q=wpG E c tm' σ' Q:=by rw [h,h2]
@[congr] theorem aqN {z:Prop} {c:vV} {tm tm' : Tr V} {σ σ' : St} {Q:V→St→Prop} (hz:tick=z) (h:tm=tm') (h2:σ=σ'):wpOp E c tm σ Q=wpOp E c tm' σ' Q:=by rw [h,h2]
@[congr] theorem aoE {z:Prop} {f:Nat} {a a' : List V} {σ σ' : St} {Q:V→St→Prop} (hz:tick=z) (h:a=a') (h2:σ=σ'):aC E f a σ Q=aC E f a' σ' Q:=by rw [h,h2]
@[congr] theorem atp {z:Prop} {dI bP:Tr V} {qs:List DO} {σ σ' : St} {res res' : List Rs} {pd pd' : List iQ} {K:St→List Rs→List iQ→Prop} (hz:tick=z) (h2:σ=σ') (h3:res=res') (h4:pd=pd'):uY dI bP qs σ res pd K=uY dI bP qs σ' res' pd' K:=by grind
@[congr] theorem atq {z:Prop} {pt:List (List Nat)} {dI bP:Tr V} {d:Dr} {σ σ' : St} {res res' : List Rs} {pd pd' : List iQ} {K:Tr V→St→Prop} (hz:tick=z) (h2:σ=σ') (h3:res=res') (h4:pd=pd'):Wy E pt dI bP d σ res pd K=Wy E pt dI bP d σ' res' pd' K:=by grind
@[congr] theorem atr {z:Prop} {σ σ' : St} {pd pd' : List iQ} (hz:tick=z) (h:σ=σ') (h2:pd=pd'):agn σ pd=agn σ' pd':=by rw [h,h2]
@[congr] theorem aqO {z:Prop} {i i' : Nat} {o:AO} {tm:Tr V} {v:V} {g:Bool} {nm:Option Nat} (hz:tick=z) (h:i=i'):iQ.mk i o tm v g nm=iQ.mk i' o tm v g nm:=by rw [h]
@[congr] theorem aoF {z:Prop} {σ σ' : St} {p:iQ} (hz:tick=z) (h:σ=σ'):again σ p=again σ' p:=by rw [h]
@[congr] theorem att {z:Prop} {dI bP:Tr V} {res:List Rs} {us us' os:List Nat} (hz:tick=z) (h:us=us'):MR dI bP res us os=MR dI bP res us' os:=by rw [h]
@[congr] theorem aqP {z:Prop} {bP:Tr V} {res:List Rs} {us us' : List Nat} (hz:tick=z) (h:us=us'):Jc bP res us=Jc bP res us':=by rw [h]
@[congr] theorem atu {z:Prop} {res:List Rs} {u u' : Nat} (hz:tick=z) (h:u=u'):fnd res u=fnd res u':=by rw [h]
@[congr] theorem aoG {z:Prop} {dI tm:Tr V} {os os' : List Nat} (hz:tick=z) (h:os=os'):Fj dI tm os=Fj dI tm os':=by rw [h]
@[congr] theorem aqQ {z:Prop} {g:Option (Nat×Bool)} {tm:Tr V} {A B:Prop} (hz:tick=z):BI g tm A B=BI g tm A B:=rfl
@[congr] theorem atv {z:Prop} {v v' : V} {b:Bool} {A B:Prop} (hz:tick=z) (h:v=v'):gsV v b A B=gsV v' b A B:=by rw [h]
@[congr] theorem auD {z:Prop} {g:Option (Nat×Bool)} {dI bP:Tr V} {res:List Rs} {us os:List Nat} {σ:St} {pd:List iQ} {i:Nat} {d:Option Nat} {op:vV} {l:List DO} {K:St→List Rs→List iQ→Prop} (hz:tick=z):qR g dI bP res us os σ pd i d op l K=qR g dI bP res us os σ pd i d op l K:=rfl
def alU(E:Env)(d:Option Nat)(g:Option (Nat×Bool))(op:vV)(tm:Tr V)(σ:St)(K:V->St->Prop):wpG E ⟨d,g,op⟩ tm σ K=BI g tm (wpOp E op tm σ K) (K .tnil σ):=rfl
def aqR(x:O)(K:V->St->Prop):wpOp E (.mov x) tm σ K=Gp (some (x.ev tm)) λv=>K v σ:=rfl
def aqS(b:AC):TK E b Q .normal tm σ=bF E b tm σ Q:=rfl
def aqT(b:AC)(i:Nat):TK E b Q (.exit i) tm σ=Q (.exit i) tm σ:=rfl
def aqU(b:AC):TK E b Q .ret tm σ=Q .ret tm σ:=rfl
def aqV(i:Nat):agw i Q .normal tm σ=Q .normal tm σ:=rfl
def aqW(i j:Nat):agw i Q (.exit j) tm σ=Q (bif Nat.beq j i then .normal else .exit j) tm σ:=rfl
def aqX(i:Nat):agw i Q .ret tm σ=Q .ret tm σ:=rfl
variable (I:Nat→Tr V→St→Prop) (m:Nat) (res:List (Nat×Option (Nat×Bool))) (K:V→St→Prop)
def aqY:ak9 I m Q .normal tm σ=∃m',m'<m/\I m' tm σ:=rfl
def aqZ(i:Nat):ak9 I m Q (.exit i) tm σ=Q (.exit i) tm σ:=rfl
def aq0:ak9 I m Q .ret tm σ=Q .ret tm σ:=rfl
def alV:ZH res K .normal tm σ=Gp (result tm σ res) λv=>K v σ:=by unfold ZH Gp;grind
def aq1:ZH res K .ret tm σ=Gp (result tm σ res) λv=>K v σ:=by unfold ZH Gp;grind
end
def aq2(p q:Rat):decide (oP p q<0)=decide (p<q):=by
 by_cases h:p<q
 .rw[bh h,bh];exact qG.mpr h
 .rw[az h,az];exact λe=>h (qG.mp e)
def ag7(tm:Tr V)(d:Nat)(v:V):Tr.get (EL tm (some d) v) d=some v:=by grind[EL,Tr.ug]
def aq3(tm:Tr V)(d j:Nat)(v:V)(h:j≠d):Tr.get (EL tm (some d) v) j=Tr.get tm j:=by grind[EL,Tr.ug]
def ZP(tm:Tr V)(σ:St):pK tm σ []=some .tnil:=rfl
def ag8(tm:Tr V)(σ:St)(t:Nat)(r:List (Nat×Option (Nat×Bool))):pK tm σ ((t,none)::r)=match tm.get t,pK tm σ r with|some v,some w=>some (.aX v w)|_,_=>none:=rfl
def ag9(tm:Tr V)(σ:St)(t n:Nat)(g:Bool)(r:List (Nat×Option (Nat×Bool))):pK tm σ ((t,some (n,g))::r)=match(match tm.ah t with|.c (.ptr b o)=>ld σ.h b o n g|_=>none),pK tm σ r with|some v,some w=>some (.aX v w)|_,_=>none:=rfl
def Fr.new1{σ:St}{h:Tr Bk}{n:Nat}{k:Bk}(hf:Fr σ ⟨h,n⟩):Fr σ ⟨hset h n k,n+1⟩:=Fr.new hf k
def Fr.set1{σ:St}{h:Tr Bk}{n b:Nat}{k:Bk}(hf:Fr σ ⟨h,n⟩)(h1:σ.aj<=b)(h2:b<n):Fr σ ⟨hset h b k,n⟩:=Fr.set hf h1 h2 k
def ak{h:Tr Bk}{b:Nat}{k:Bk}(e:h b=some k)(o n:Nat)(g:Bool):ld h b o n g=bif k.rd then zL k.cells o n g else none:=by unfold ld;rw[e]
def aJ{h:Tr Bk}{b:Nat}{k:Bk}(e:h b=some k)(o:Nat)(vs:List B):sto h b o vs=match bif k.pl then yx k.cells o vs else none with|some l=>some (hset h b ⟨l,k.opn⟩)|none=>none:=by grind[sto]
def plo(o:Option (Nat×Nat)):Bool:=match o with|some (0,_)=>false|_=>true
def YT(o:Option (Nat×Nat)):Bool:=match o with|some (0,t)=>Nat.beq t 1|_=>true
def aq4(k:Bk):k.pl=plo k.opn:=rfl
def NH(k:Bk):k.rd=YT k.opn:=rfl
def aha:plo none=true:=rfl
def ahb:YT none=true:=rfl
def aoH(e t:Nat)(h:e≠0):plo (some (e,t))=true:=by cases e with|zero=>omega|succ e=>rfl
def CP(e t:Nat)(h:e≠0):YT (some (e,t))=true:=by cases e with|zero=>omega|succ e=>rfl
def auE:YT (some (0,1))=true:=rfl
def ahc(k:IntKind)(n:Int):B.kn (.int k n)=true:=rfl
theorem AL(b:Bool):B.kn (.bool b)=true:=rfl
theorem FV(s:ByteArray):B.kn (.str s)=true:=rfl
def aq5(b o:Nat):B.kn (.ptr b o)=true:=rfl
def alW:B.kn .Td=true:=rfl
def auF(b o n:Nat)(c:Cap):B.kn (.sl b o n c)=true:=rfl
def alX:B.kn .aY=true:=rfl
def auG(b:Nat):B.kn (.mp b)=true:=rfl
def HL.kn{h:Tr Bk}{e:Nat}{v:B}{n:Nat}{G:Nat->List B}(hl:HL h e v n G):v.kn=true:=by rcases hl with⟨-,rfl⟩|⟨b,o,c,rfl,-⟩<;>rfl
def HC.kn{h:Tr Bk}{v:B}{n:Nat}{G:Nat->B}(hl:HC h v n G):v.kn=true:=by rcases hl with⟨-,rfl⟩|⟨b,o,c,rfl,-⟩<;>rfl
def auH(x:B)(l:List B)(o n:Nat):zL (x::l) o n true=bif Nat.beq (((x::l).drop o).take n).length n&&(((x::l).drop o).take n).all B.kn then some (.agg (((x::l).drop o).take n))else none:=rfl
def auI(x:B)(l:List B)(o n:Nat):zL (x::l) o n false=match(x::l).drop o with|x::_=>bif x.kn then some (.c x)else none|[]=>none:=rfl
def auJ(x:B)(l vs:List B):yx (x::l) 0 vs=bif Nat.ble vs.length (x::l).length then some (vs++(x::l).drop vs.length)else none:=by rw[yx]
def auK(x:B)(l:List B)(o:Nat)(vs:List B):yx (x::l) (o+1) vs=match yx l o vs with|some r=>some (x::r)|none=>none:=by rfl
def ahd(a b:Nat):(Int.ofNat a=Int.ofNat b)=(a=b):=propext ⟨Int.ofNat.inj,λe=>by rw[e]⟩
def eq_neg(a b:Nat):(Int.ofNat a=Int.negSucc b)=False:=by simp
def auL[h:Decidable True]: @decide True h=true:=by simp
def auM[h:Decidable False]: @decide False h=false:=by simp
attribute [go_sem] aeh alR alS aqK aqL ag5 ad9 wpOps_cons agE ap8 o_load alh ali alj ap9 auh aqa aqb aqc aqd aui auj auk aul aum aun auo aqe aqf aup auq aur alk alm aqg aut aus auu aln BZ aqh Zq auv alg ad8 aqi alo auw aqj JZ rep auy alp aqk axh axi adW ale adZ ad1 ad2 ad3 ad4 ad5 ad6 V.cells alf aug agD ap7 aA axj axk cU et Bool.and_true Bool.true_and List.drop_succ_cons gA gh cI bZ List.length_nil Nat.reduceAdd cK cD abD NG vY Fz au dt List.nil_append gH List.map_cons List.map_nil result agC aG aly alz als aqt alC alE agO agQ agS aqv aqx aqz agU agW aqB aqD alF agY alH aqF ag0 alJ alL aed alu alv aql agH aea agI alq agJ aeb ZM agK aec agG alx agL aqu alD agP agR agT aqw aqy aqA agV agX aqC aqE alG agZ alI aqG ag1 alK alM ZO WQ aef alA auz ZN aee List.contains_cons List.contains_nil Nat.reduceBEq Bool.or_false Bool.or_true Bool.false_or Bool.true_or cC ft List.getD_cons_zero List.getD_cons_succ am and_true alU aqm aqn aqo aqp aqr aqs alr auA alB aqR aqI auB seq_eq ag4 alO alP aqJ alQ ag6 aeg alT aqS aqT aqU aqV aqW aqX aqY aqZ aq0 alV aq1 aq2 ahc AL FV aq5 alW auF alX auG auH auI auJ auK ahd eq_neg auL auM aq4 NH aha ahb aoH CP auE ag7 aq3 ZP ag8 ag9 aud ZJ ZK agB adV aue auf ap3 agA aub ap2 agz adU WI ap0 WG ap1 WH adT auc alc abC ap4 WL ap5 ap6 ald WJ
end Go.Proofs.Xe
