import Derived.Test.YthkggcakedkboaaGreatDoorYc10
import Derived.Attr
set_option linter.all false
namespace Go.Proofs.Xe
open Go.RowKit Go.Proofs.Ins
noncomputable def Za(tm:Tr V):List Nat->Tr V
 |[]=>tm
 |d::l=>(Za tm l).set d none
def IW(tm:Tr V):∀ds,zX tm ds=some (Za tm ds)
 |[]=>rfl
 |d::l=>by unfold zX;rw[IW tm l];rfl
theorem aa6(tm:Tr V)(j:Nat):∀ds:List Nat,ds.contains j=false->(Za tm ds).get j=tm.get j
 |[],_=>rfl
 |d::l,h=>by rw[List.contains_cons,Bool.or_eq_false_iff]at h;show((Za tm l).set d none).get j=_;rw[Tr.sV,ae (by simpa using h.1),aa6 tm j l h.2]
def afZ(tm:Tr V)(ds:List Nat)(j:Nat)(h:ds.contains j=false):Tr.ah (Za tm ds) j=Tr.ah tm j:=by grind[Tr.ah,aa6]
def fnd:List Rs->Nat->Option Rs
 |[],_=>none
 |r::l,u=>bif Nat.beq r.i u then some r else fnd l u
def VW(u:Nat):∀l:List Rs,l.find? (λr=>Nat.beq r.i u)=fnd l u
 |[]=>rfl
 |r::l=>by rw[List.find?_cons,fnd,VW u l];cases Nat.beq r.i u<;>rfl
noncomputable def tmO:Option (Tr V)->Option Rs->Option (Tr V)
 |some tm,some r=>some (Ei tm r.d r.v)
 |_,_=>none
def af0(bK:Tr V)(res:List Rs):IE bK res []=some bK:=rfl
def adv(bK:Tr V)(res:List Rs)(u:Nat)(us:List Nat):IE bK res (u::us)=tmO (IE bK res us) (fnd res u):=by
 rw[IE,VW];cases IE bK res us with
 |none=>rfl
 |some tm=>
  cases fnd res u with
  |none=>rfl
  |some r=>show IC tm r.d r.v=_;rw[Kr];rfl
def af2(tm:Tr V)(i:Nat)(d:Option Nat)(v:V):tmO (some tm) (some ⟨i,d,v⟩)=some (Ei tm d v):=rfl
def akR(i:Nat)(d:Option Nat)(v:V)(l:List Rs):fnd (⟨i,d,v⟩::l) i=some ⟨i,d,v⟩:=by unfold fnd;simp
def af4(i u:Nat)(d:Option Nat)(v:V)(l:List Rs)(h:i≠u):fnd (⟨i,d,v⟩::l) u=fnd l u:=by grind[fnd,Nb]
def adw(dA tm:Tr V):EM dA tm []=some tm:=rfl
def Zb(dA tm:Tr V)(t:Nat)(l:List Nat):EM dA tm (t::l)=match EM dA tm l with|some tm=>some (Ei tm (some t) (dA.ah t))|none=>none:=by rfl
def apy(dA bK:Tr V)(res:List Rs)(us os:List Nat):L8 dA bK res us os=match IE bK res us with|some tm=>EM dA tm os|none=>none:=rfl
def af5(bK:Tr V):JL bK []=some bK:=rfl
def adx(bK:Tr V)(i:Nat)(d:Option Nat)(v:V)(l:List Rs):JL bK (⟨i,d,v⟩::l)=match JL bK l with|some tm=>some (Ei tm d v)|none=>none:=by grind[JL,Kr]
def A8(g:Option (Nat×Bool))(tm:Tr V)(A B:Prop):Prop:=match gate g tm with|some true=>A|some false=>B|none=>False
def gsV(v:V)(b:Bool)(A B:Prop):Prop:=match v with|.c (.bool c)=>(bif c==b then A else B)|.tnil=>B|_=>False
def apz(tm:Tr V)(A B:Prop):A8 none tm A B=A:=rfl
def apA(t:Nat)(b:Bool)(tm:Tr V)(A B:Prop):A8 (some (t,b)) tm A B=gsV (tm.ah t) b A B:=by grind[A8,gsV,gate]
def apB(A B:Prop):gsV (.c (.bool true)) true A B=A:=rfl
def apC(A B:Prop):gsV (.c (.bool true)) false A B=B:=rfl
def apD(A B:Prop):gsV (.c (.bool false)) true A B=B:=rfl
def apE(A B:Prop):gsV (.c (.bool false)) false A B=A:=rfl
def akS(b:Bool)(A B:Prop):gsV .tnil b A B=B:=rfl
def aa7{p:Prop}[Decidable p]{A B:Prop}(h1:p->A)(h2:¬p->B):gsV (.c (.bool (decide p))) true A B:=by
 by_cases h:p
 .rw[bB h];exact h1 h
 .rw[az h];exact h2 h
def VX{p:Prop}[Decidable p]{A B:Prop}(h1:p->B)(h2:¬p->A):gsV (.c (.bool (decide p))) false A B:=by
 by_cases h:p
 .rw[bB h];exact h1 h
 .rw[az h];exact h2 h
def uo(dA bK:Tr V)(qs:List DO)(σ:St)(res:List Rs)(pd:List iL)(K:St->List Rs->List iL->Prop):Prop:=
 match xE dA bK qs σ res pd with
 |some (σ,res,pd)=>K σ res pd
 |none=>False
def akT(dA bK:Tr V)(σ:St)(res:List Rs)(pd:List iL)(K:St->List Rs->List iL->Prop):uo dA bK [] σ res pd K=K σ res pd:=rfl
section
variable (E:Env) (pt:List (List Nat)) (dA bK:Tr V) (σ:St) (res:List Rs) (pd:List iL)
def pI(i:Nat)(us os:List Nat)(d:Option Nat)(g:Option (Nat×Bool))(op:uU)(l:List DO)(K:St->List Rs->List iL->Prop)(h:op.kind=.q):
  uo dA bK (⟨i,us,os,⟨d,g,op⟩⟩::l) σ res pd K=match L8 dA bK res us os with
   |some tm=>A8 g tm (wpOp E op tm σ λv _=>uo dA bK l σ (⟨i,d,v⟩::res) (⟨i,⟨d,g,op⟩,tm,v,true,none⟩::pd) K) (uo dA bK l σ (⟨i,d,.tnil⟩::res) (⟨i,⟨d,g,op⟩,tm,.tnil,false,none⟩::pd) K)
   |none=>False:=by
 unfold uo A8
 rw[xE]
 dsimp only
 cases L8 dA bK res us os with
 |none=>rfl
 |some tm=>
  dsimp only
  have hc:∀g l,op≠.call g l:=λg l e=>by rw[e]at h;cases h
  grind[ig,FZ]
def ady(i:Nat)(us os:List Nat)(d:Option Nat)(g:Option (Nat×Bool))(z:List B)(l:List DO)(K:St->List Rs->List iL->Prop):
  uo dA bK (⟨i,us,os,⟨d,g,.alloc z⟩⟩::l) σ res pd K=match L8 dA bK res us os with
   |some tm=>A8 g tm (uo dA bK l ⟨hset σ.h σ.aj ⟨z,none⟩,σ.aj+1⟩ (⟨i,d,.c (.ptr σ.aj 0)⟩::res) (⟨i,⟨d,g,.alloc z⟩,tm,.c (.ptr σ.aj 0),true,some σ.aj⟩::pd) K)
    (uo dA bK l σ (⟨i,d,.tnil⟩::res) (⟨i,⟨d,g,.alloc z⟩,tm,.tnil,false,none⟩::pd) K)
   |none=>False:=by
 unfold uo A8
 rw[xE]
 dsimp only
 cases L8 dA bK res us os with
 |none=>rfl
 |some tm=>
  grind[uU.kind,mZ,jG]
def akU(i:Nat)(us os:List Nat)(d:Option Nat)(g:Option (Nat×Bool))(x:O)(l:List DO)(K:St->List Rs->List iL->Prop):
  uo dA bK (⟨i,us,os,⟨d,g,.box x⟩⟩::l) σ res pd K=match L8 dA bK res us os with
   |some tm=>A8 g tm (match(x.ev tm).cells with
    |some z=>uo dA bK l ⟨hset σ.h σ.aj ⟨z,none⟩,σ.aj+1⟩ (⟨i,d,.c (.ptr σ.aj 0)⟩::res) (⟨i,⟨d,g,.box x⟩,tm,.c (.ptr σ.aj 0),true,some σ.aj⟩::pd) K
    |none=>False) (uo dA bK l σ (⟨i,d,.tnil⟩::res) (⟨i,⟨d,g,.box x⟩,tm,.tnil,false,none⟩::pd) K)
   |none=>False:=by
 unfold uo A8
 rw[xE]
 dsimp only
 cases L8 dA bK res us os with
 |none=>rfl
 |some tm=>
  grind[uU.kind,mZ,jG]
def akV(i:Nat)(us os:List Nat)(d:Option Nat)(g:Option (Nat×Bool))(e n:Nat)(z:List B)(ps:List (Nat×Nat×O))(l:List DO)(K:St->List Rs->List iL->Prop)(hn:n*e<=16777216)(hn2:n<=16777216):
  uo dA bK (⟨i,us,os,⟨d,g,.bsl e n z ps⟩⟩::l) σ res pd K=match L8 dA bK res us os with
   |some tm=>A8 g tm (match BH (rep z n) (ps.map λp=>(p.1,p.2.1,p.2.2.ev tm))with
    |some c=>uo dA bK l ⟨hset σ.h σ.aj ⟨c,none⟩,σ.aj+1⟩ (⟨i,d,.c (.sl σ.aj 0 n (.ex n))⟩::res) (⟨i,⟨d,g,.bsl e n z ps⟩,tm,.c (.sl σ.aj 0 n (.ex n)),true,some σ.aj⟩::pd) K
    |none=>False) (uo dA bK l σ (⟨i,d,.tnil⟩::res) (⟨i,⟨d,g,.bsl e n z ps⟩,tm,.tnil,false,none⟩::pd) K)
   |none=>False:=by
 unfold uo A8
 rw[xE]
 dsimp only
 cases L8 dA bK res us os with
 |none=>rfl
 |some tm=>
  grind[uU.kind,mZ,uY,jG]
def agn(σ:St):List iL->Prop
 |[]=>True
 |p::l=>again σ p=true/\agn σ l
theorem SX(σ:St):∀l:List iL,(l.all (again σ)=true)=agn σ l
 |[]=>by simp[agn]
 |p::l=>by rw[cL,af,SX σ l];rfl
def akW(σ:St):agn σ []=True:=rfl
def af6(σ:St)(p:iL)(l:List iL):agn σ (p::l)=(again σ p=true/\agn σ l):=rfl
def adz(l:List Nat):List iL->List iL
 |[]=>[]
 |p::pd=>bif l.contains p.i then adz l pd else p::adz l pd
theorem af7(l:List Nat):∀pd:List iL,pd.filter (λp=>!(l.contains p.i))=adz l pd
 |[]=>rfl
 |p::pd=>by rw[List.filter_cons,adz,af7 l pd];cases l.contains p.i<;>rfl
def akX(qs:List DO)(Q:Tr V->St->Prop):VK E pt dA bK (.fin qs) σ res pd Q=uo dA bK qs σ res pd λσ res pd=>agn σ pd/\(match JL bK res with|some tm=>Q tm σ|none=>False):=by grind[VK,uo,SX]
def akY(qs:List DO)(i:Nat)(us os:List Nat)(d:Option Nat)(g:Option (Nat×Bool))(op:uU)(r:Dr)(Q:Tr V->St->Prop):
  VK E pt dA bK (.act qs ⟨i,us,os,⟨d,g,op⟩⟩ r) σ res pd Q=uo dA bK qs σ res pd λσ res pd=>agn σ pd/\(match L8 dA bK res us os with
   |some tm=>wpG E ⟨d,g,op⟩ tm σ λv σ'=>VK E pt dA bK r σ' (⟨i,d,v⟩::res) (adz (pt.getD i []) pd) Q
   |none=>False):=by
 grind[VK,uo,SX,af7]
def af8(b:B):acU b b=b.kn:=by
 cases b<;>simp[acU,B.kn]
 case int k n=>cases n<;>simp[eqI]
 case sl b o n c=>cases c<;>simp[eqC]
def Zc:∀l:List B,L6 l l=l.all B.kn
 |[]=>rfl
 |b::l=>by rw[cL];unfold L6;rw[af8 b,Zc l]
def akZ(l:List B):eqV (.agg l) (.agg l)=l.all B.kn:=Zc l
def atA(b:B):eqV (.c b) (.c b)=b.kn:=af8 b
def iU(i:Nat)(d:Option Nat)(g9:Option (Nat×Bool))(op:uU)(tm:Tr V)(v:V)(h:op.kind=.q)(h2:op.looks=false):again σ ⟨i,⟨d,g9,op⟩,tm,v,true,none⟩=true:=by grind[again]
def Zd(i:Nat)(d:Option Nat)(g9:Option (Nat×Bool))(n:Nat)(g:Bool)(x:O)(tm:Tr V)(v:V):again σ ⟨i,⟨d,g9,.load n g x⟩,tm,v,true,none⟩=match(match x.ev tm with|.c (.ptr b o)=>ld σ.h b o n g|_=>none)with|some u=>eqV u v|none=>false:=by rfl
def VY(i:Nat)(d:Option Nat)(g9:Option (Nat×Bool))(z:List B)(tm:Tr V)(v:V)(b:Nat):again σ ⟨i,⟨d,g9,.alloc z⟩,tm,v,true,some b⟩=match σ.h b with|some ⟨c,none⟩=>L6 c z|_=>false:=by rfl
def adA(i:Nat)(d:Option Nat)(g9:Option (Nat×Bool))(e n:Nat)(z:List B)(ps:List (Nat×Nat×O))(tm:Tr V)(v:V)(b:Nat)(hn:n*e<=16777216)(hn2:n<=16777216):again σ ⟨i,⟨d,g9,.bsl e n z ps⟩,tm,v,true,some b⟩=match BH (rep z n) (ps.map λp=>(p.1,p.2.1,p.2.2.ev tm))with|some z=>(match σ.h b with|some ⟨c,none⟩=>L6 c z|_=>false)|none=>false:=by grind[again,uU.kind,mZ,uY]
end
def ak0(σ:St)(i:Nat)(o:AO)(tm:Tr V)(v:V)(nm:Option Nat):again σ ⟨i,o,tm,v,false,nm⟩=true:=rfl
section
def E0:Env:=⟨λ_=>none,λ_ _ _=>none⟩
variable (dA bK tm:Tr V) (σ:St) (res:List Rs) (pd:List iL) (i:Nat) (us os:List Nat) (d:Option Nat) (g9:Option (Nat×Bool)) (l:List DO) (K:St→List Rs→List iL→Prop) (v:V)
def qR(g:Option (Nat×Bool))(dA bK:Tr V)(res:List Rs)(us os:List Nat)(σ:St)(pd:List iL)(i:Nat)(d:Option Nat)(op:uU)(l:List DO)(K:St->List Rs->List iL->Prop):Prop:=match L8 dA bK res us os with
 |some tm=>A8 g tm (wpOp E0 op tm σ λv _=>uo dA bK l σ (⟨i,d,v⟩::res) (⟨i,⟨d,g,op⟩,tm,v,true,none⟩::pd) K) (uo dA bK l σ (⟨i,d,.tnil⟩::res) (⟨i,⟨d,g,op⟩,tm,.tnil,false,none⟩::pd) K)
 |none=>False
def atB(g:Option (Nat×Bool))(dA bK:Tr V)(res:List Rs)(us os:List Nat)(σ:St)(pd:List iL)(i:Nat)(d:Option Nat)(op:uU)(l:List DO)(K:St->List Rs->List iL->Prop):qR g dA bK res us os σ pd i d op l K=match L8 dA bK res us os with
 |some tm=>A8 g tm (wpOp E0 op tm σ λv _=>uo dA bK l σ (⟨i,d,v⟩::res) (⟨i,⟨d,g,op⟩,tm,v,true,none⟩::pd) K) (uo dA bK l σ (⟨i,d,.tnil⟩::res) (⟨i,⟨d,g,op⟩,tm,.tnil,false,none⟩::pd) K)
 |none=>False:=rfl
def apG(x:O):uo dA bK (⟨i,us,os,⟨d,g9,.mov x⟩⟩::l) σ res pd K=qR g9 dA bK res us os σ pd i d (.mov x) l K:=pI E0 _ _ _ _ _ _ _ _ _ _ _ _ _ rfl
def apI(x:O):again σ ⟨i,⟨d,g9,.mov x⟩,tm,v,true,none⟩=true:=iU _ _ _ _ _ _ _ rfl rfl
def ak1(c a b:O):uo dA bK (⟨i,us,os,⟨d,g9,.pick c a b⟩⟩::l) σ res pd K=qR g9 dA bK res us os σ pd i d (.pick c a b) l K:=pI E0 _ _ _ _ _ _ _ _ _ _ _ _ _ rfl
def ak2(c a b:O):again σ ⟨i,⟨d,g9,.pick c a b⟩,tm,v,true,none⟩=true:=iU _ _ _ _ _ _ _ rfl rfl
def ak3(n:Nat)(g:Bool)(x:O):uo dA bK (⟨i,us,os,⟨d,g9,.load n g x⟩⟩::l) σ res pd K=qR g9 dA bK res us os σ pd i d (.load n g x) l K:=pI E0 _ _ _ _ _ _ _ _ _ _ _ _ _ rfl
def af9(n:Nat)(x:O):uo dA bK (⟨i,us,os,⟨d,g9,.BF n x⟩⟩::l) σ res pd K=qR g9 dA bK res us os σ pd i d (.BF n x) l K:=pI E0 _ _ _ _ _ _ _ _ _ _ _ _ _ rfl
def aga(n:Nat)(x:O):again σ ⟨i,⟨d,g9,.BF n x⟩,tm,v,true,none⟩=true:=iU _ _ _ _ _ _ _ rfl rfl
def agb(o n:Nat)(g:Bool)(x:O):uo dA bK (⟨i,us,os,⟨d,g9,.field o n g x⟩⟩::l) σ res pd K=qR g9 dA bK res us os σ pd i d (.field o n g x) l K:=pI E0 _ _ _ _ _ _ _ _ _ _ _ _ _ rfl
def agc(o n:Nat)(g:Bool)(x:O):again σ ⟨i,⟨d,g9,.field o n g x⟩,tm,v,true,none⟩=true:=iU _ _ _ _ _ _ _ rfl rfl
def agd(e:Nat)(x j:O):uo dA bK (⟨i,us,os,⟨d,g9,.EJ e x j⟩⟩::l) σ res pd K=qR g9 dA bK res us os σ pd i d (.EJ e x j) l K:=pI E0 _ _ _ _ _ _ _ _ _ _ _ _ _ rfl
def agf(e:Nat)(x j:O):again σ ⟨i,⟨d,g9,.EJ e x j⟩,tm,v,true,none⟩=true:=iU _ _ _ _ _ _ _ rfl rfl
def apJ(n:Nat)(x:O):uo dA bK (⟨i,us,os,⟨d,g9,.ext n x⟩⟩::l) σ res pd K=qR g9 dA bK res us os σ pd i d (.ext n x) l K:=pI E0 _ _ _ _ _ _ _ _ _ _ _ _ _ rfl
def apL(n:Nat)(x:O):again σ ⟨i,⟨d,g9,.ext n x⟩,tm,v,true,none⟩=true:=iU _ _ _ _ _ _ _ rfl rfl
def apM(b:BinOp)(x y:O):uo dA bK (⟨i,us,os,⟨d,g9,.bin b x y⟩⟩::l) σ res pd K=qR g9 dA bK res us os σ pd i d (.bin b x y) l K:=pI E0 _ _ _ _ _ _ _ _ _ _ _ _ _ rfl
def apN(b:BinOp)(x y:O):again σ ⟨i,⟨d,g9,.bin b x y⟩,tm,v,true,none⟩=true:=iU _ _ _ _ _ _ _ rfl rfl
def apO(p:Bool)(x y:O):uo dA bK (⟨i,us,os,⟨d,g9,.eqb p x y⟩⟩::l) σ res pd K=qR g9 dA bK res us os σ pd i d (.eqb p x y) l K:=pI E0 _ _ _ _ _ _ _ _ _ _ _ _ _ rfl
def apP(p:Bool)(x y:O):again σ ⟨i,⟨d,g9,.eqb p x y⟩,tm,v,true,none⟩=true:=iU _ _ _ _ _ _ _ rfl rfl
def agh(p:Bool)(x y:O):uo dA bK (⟨i,us,os,⟨d,g9,.EL p x y⟩⟩::l) σ res pd K=qR g9 dA bK res us os σ pd i d (.EL p x y) l K:=pI E0 _ _ _ _ _ _ _ _ _ _ _ _ _ rfl
def agi(p:Bool)(x y:O):again σ ⟨i,⟨d,g9,.EL p x y⟩,tm,v,true,none⟩=true:=iU _ _ _ _ _ _ _ rfl rfl
def agj(p:Bool)(x y:O):uo dA bK (⟨i,us,os,⟨d,g9,.Gp p x y⟩⟩::l) σ res pd K=qR g9 dA bK res us os σ pd i d (.Gp p x y) l K:=pI E0 _ _ _ _ _ _ _ _ _ _ _ _ _ rfl
def agk(p:Bool)(x y:O):again σ ⟨i,⟨d,g9,.Gp p x y⟩,tm,v,true,none⟩=true:=iU _ _ _ _ _ _ _ rfl rfl
def apQ(k:Nat)(p:Bool)(x:O):uo dA bK (⟨i,us,os,⟨d,g9,.nil k p x⟩⟩::l) σ res pd K=qR g9 dA bK res us os σ pd i d (.nil k p x) l K:=pI E0 _ _ _ _ _ _ _ _ _ _ _ _ _ rfl
def apR(k:Nat)(p:Bool)(x:O):again σ ⟨i,⟨d,g9,.nil k p x⟩,tm,v,true,none⟩=true:=iU _ _ _ _ _ _ _ rfl rfl
def apS(x:O):uo dA bK (⟨i,us,os,⟨d,g9,.not x⟩⟩::l) σ res pd K=qR g9 dA bK res us os σ pd i d (.not x) l K:=pI E0 _ _ _ _ _ _ _ _ _ _ _ _ _ rfl
def apT(x:O):again σ ⟨i,⟨d,g9,.not x⟩,tm,v,true,none⟩=true:=iU _ _ _ _ _ _ _ rfl rfl
def ak4(k:IntKind)(x:O):uo dA bK (⟨i,us,os,⟨d,g9,.conv k x⟩⟩::l) σ res pd K=qR g9 dA bK res us os σ pd i d (.conv k x) l K:=pI E0 _ _ _ _ _ _ _ _ _ _ _ _ _ rfl
def ak5(k:IntKind)(x:O):again σ ⟨i,⟨d,g9,.conv k x⟩,tm,v,true,none⟩=true:=iU _ _ _ _ _ _ _ rfl rfl
def agl(z:List B)(ps:List (Nat×Nat×O)):uo dA bK (⟨i,us,os,⟨d,g9,.build z ps⟩⟩::l) σ res pd K=qR g9 dA bK res us os σ pd i d (.build z ps) l K:=pI E0 _ _ _ _ _ _ _ _ _ _ _ _ _ rfl
def agm(z:List B)(ps:List (Nat×Nat×O)):again σ ⟨i,⟨d,g9,.build z ps⟩,tm,v,true,none⟩=true:=iU _ _ _ _ _ _ _ rfl rfl
def ak6(f:Nat)(cs:List O):uo dA bK (⟨i,us,os,⟨d,g9,.O4 f cs⟩⟩::l) σ res pd K=qR g9 dA bK res us os σ pd i d (.O4 f cs) l K:=pI E0 _ _ _ _ _ _ _ _ _ _ _ _ _ rfl
def ak7(f:Nat)(cs:List O):again σ ⟨i,⟨d,g9,.O4 f cs⟩,tm,v,true,none⟩=true:=iU _ _ _ _ _ _ _ rfl rfl
def apU(x:O):uo dA bK (⟨i,us,os,⟨d,g9,.len x⟩⟩::l) σ res pd K=qR g9 dA bK res us os σ pd i d (.len x) l K:=pI E0 _ _ _ _ _ _ _ _ _ _ _ _ _ rfl
def apV(x:O):again σ ⟨i,⟨d,g9,.len x⟩,tm,v,true,none⟩=true:=iU _ _ _ _ _ _ _ rfl rfl
def agp(e:Nat)(x:O)(lo hi mx:Option O):uo dA bK (⟨i,us,os,⟨d,g9,.slice e x lo hi mx⟩⟩::l) σ res pd K=qR g9 dA bK res us os σ pd i d (.slice e x lo hi mx) l K:=pI E0 _ _ _ _ _ _ _ _ _ _ _ _ _ rfl
def agq(e:Nat)(x:O)(lo hi mx:Option O):again σ ⟨i,⟨d,g9,.slice e x lo hi mx⟩,tm,v,true,none⟩=true:=iU _ _ _ _ _ _ _ rfl rfl
def ak8(x:O):uo dA bK (⟨i,us,os,⟨d,g9,.O5 x⟩⟩::l) σ res pd K=qR g9 dA bK res us os σ pd i d (.O5 x) l K:=pI E0 _ _ _ _ _ _ _ _ _ _ _ _ _ rfl
def ak9(x:O):again σ ⟨i,⟨d,g9,.O5 x⟩,tm,v,true,none⟩=true:=iU _ _ _ _ _ _ _ rfl rfl
def ala(x y:O):uo dA bK (⟨i,us,os,⟨d,g9,.min2 x y⟩⟩::l) σ res pd K=qR g9 dA bK res us os σ pd i d (.min2 x y) l K:=pI E0 _ _ _ _ _ _ _ _ _ _ _ _ _ rfl
def alb(x y:O):again σ ⟨i,⟨d,g9,.min2 x y⟩,tm,v,true,none⟩=true:=iU _ _ _ _ _ _ _ rfl rfl
end
def apW{E:Env}{tm:Tr V}{σ:St}{Q:AX->Tr V->St->Prop}{d:Dr}{pt:List (List Nat)}{ds:List Nat}(h:VK E pt tm (Za tm ds) d σ [] [] λtm' σ'=>Q .normal tm' σ'):bJ E (.drawn d pt ds) tm σ Q:=
 ada _ (IW tm ds) h
section
variable {E:Env}
theorem alc{n:Nat}{op:uU}{tm:Tr V}{σ σ':St}{v:V}{K:V->St->Prop}(h:oz (iP E n) op tm σ=some (v,σ'))(hk:K v σ'):wpOp E op tm σ K:=by
 unfold wpOp;split
 .next g args=>
  unfold oz at h;simp only[uU.kind]at h;split at h
  .next f a e=>
   unfold aaW at e;cases hg:g.ev tm with
   |fn f' caps=>
    dsimp only at e
    rw[hg]at e
    obtain⟨rfl,rfl⟩:=Prod.mk.inj (eo e)
    exact⟨n,v,σ',h,hk⟩
   |_=>grind
  .cases h
 .next hne=>
  have e:oz (λ_ _ _=>none) op tm σ=oz (iP E n) op tm σ:=by
   unfold oz;cases hk2:op.kind with
   |c=>cases op<;>simp only[uU.kind,reduceCtorEq]at hk2;grind
   |_=>rfl
  grind
def ags{n:Nat}{o:AO}{tm:Tr V}{σ σ':St}{v:V}{K:V->St->Prop}(h:stepG (iP E n) o tm σ=some (v,σ'))(hk:K v σ'):wpG E o tm σ K:=by grind[wpG,stepG,alc]
theorem VZ{n:Nat}:∀{l:List AO}{tm tm':Tr V}{σ σ':St}{Q:Tr V->St->Prop},rP (iP E n) l tm σ=some (tm',σ')->Q tm' σ'->wpOps E l tm σ Q
 |[],_,_,_,_,_,h,hq=>by cases h;exact hq
 |o::l,tm,tm',σ,σ',Q,h,hq=>by
  unfold rP at h;split at h
  .next v σ1 e=>
   rw[Kr]at h;exact ags e (VZ h hq)
  .cases h
theorem agt{n:Nat}{pt:List (List Nat)}{dA bK:Tr V}:∀{d:Dr}{σ σ':St}{res:List Rs}{pd:List iL}{tm':Tr V}{Q:Tr V->St->Prop},BI (iP E n) pt dA bK d σ res pd=some (tm',σ')->Q tm' σ'->VK E pt dA bK d σ res pd Q
 |.fin qs,σ,σ',res,pd,tm',Q,h,hq=>by grind[Go.Proofs.Xe.BI,Go.Proofs.Xe.VK]
 |.act qs x r,σ,σ',res,pd,tm',Q,h,hq=>by
  unfold BI at h;unfold VK;split at h
  .next σ1 res1 pd1 e=>
   rw[e];dsimp only;cases hb:pd1.all (again σ1)with
   |false=>rw[hb]at h;cases h
   |true=>
    rw[hb]at h
    simp only[cn]at h
    refine⟨rfl,?_⟩
    split at h
    .next VB e2=>
     rw[e2]
     dsimp only
     split at h
     .next v σ2 e3=>exact ags e3 (agt h hq)
     .cases h
    .cases h
  .cases h
end
section
variable (E:Env) (tm:Tr V) (σ:St) (Q:AX→Tr V→St→Prop)
def apX(l:List AO):bJ E (.ops l) tm σ Q=wpOps E l tm σ λtm' σ'=>Q .normal tm' σ':=by
 refine propext ⟨?_,akC⟩;rintro⟨n,e,tm',σ',h,hq⟩;cases n with
 |zero=>grind[exec]
 |succ n=>
  simp only[exec,Vo]at h
  grind[VZ]
def atC(d:Dr)(pt:List (List Nat))(ds:List Nat):bJ E (.drawn d pt ds) tm σ Q=VK E pt tm (Za tm ds) d σ [] [] λtm' σ'=>Q .normal tm' σ':=by
 refine propext ⟨?_,apW⟩;rintro⟨n,e,tm',σ',h,hq⟩;cases n with
 |zero=>grind[exec]
 |succ n=>
  simp only[exec,xDr,Vo,IW]at h
  grind[agt]
def seq_eq(a b:AC):bJ E (.seq a b) tm σ Q=bJ E a tm σ (SQ E b Q):=by
 refine propext ⟨?_,run_seq⟩;rintro⟨n,e,tm',σ',h,hq⟩;cases n with
 |zero=>grind[exec]
 |succ n=>
  rw[exec]at h
  cases hx:exec E n a tm σ with
  |none=>rw[hx]at h;cases h
  |some q=>
   rw[hx]at h
   obtain⟨e1,IL,σ1⟩:=q
   refine⟨n,e1,IL,σ1,hx,?_⟩
   cases e1 with
   |normal=>exact⟨n,e,tm',σ',h,hq⟩
   |exit i=>cases h;exact hq
   |ret=>cases h;exact hq
def agu(i:Nat)(a:AC):bJ E (.block i a) tm σ Q=bJ E a tm σ (afN i Q):=by
 refine propext ⟨?_,DL⟩;rintro⟨n,e,tm',σ',h,hq⟩;cases n with
 |zero=>grind[exec]
 |succ n=>
  rw[exec]at h
  cases hx:exec E n a tm σ with
  |none=>rw[hx]at h;cases h
  |some q=>
   rw[hx]at h
   obtain⟨e1,IL,σ1⟩:=q
   refine⟨n,e1,IL,σ1,hx,?_⟩
   cases e1 with
   |normal=>cases h;exact hq
   |exit j=>cases h;exact hq
   |ret=>cases h;exact hq
def ald:bJ E .skip tm σ Q=Q .normal tm σ:=by
 refine propext ⟨?_,VI⟩;rintro⟨n,e,tm',σ',h,hq⟩;cases n with
 |zero=>grind[exec]
 |succ n=>grind[exec]
def ale(i:Nat):bJ E (.exit i) tm σ Q=Q (.exit i) tm σ:=by
 refine propext ⟨?_,afL⟩;rintro⟨n,e,tm',σ',h,hq⟩;cases n with
 |zero=>grind[exec]
 |succ n=>grind[exec]
def apY:bJ E .ret tm σ Q=Q .ret tm σ:=by
 refine propext ⟨?_,akA⟩;rintro⟨n,e,tm',σ',h,hq⟩;cases n with
 |zero=>grind[exec]
 |succ n=>grind[exec]
def ifV(v:V)(P:Bool->Prop):Prop:=match v with|.c (.bool t)=>P t|_=>False
def alf(x:O)(a b:AC):bJ E (.cond x a b) tm σ Q=ifV (x.ev tm) λt=>bJ E (bif t then a else b) tm σ Q:=by
 refine propext ⟨?_,λh=>?_⟩
 .rintro⟨n,e,tm',σ',h,hq⟩;cases n with
  |zero=>grind[exec]
  |succ n=>
   simp only[exec,aaY]at h
   split at h
   .next t e=>rw[e];exact⟨n,_,_,_,h,hq⟩
   .cases h
 .unfold ifV at h;grind[afM]
def apZ(a b:AC):bJ E (bif true then a else b) tm σ Q=bJ E a tm σ Q:=rfl
def ap0(a b:AC):bJ E (bif false then a else b) tm σ Q=bJ E b tm σ Q:=rfl
def alg(a b:AC):bJ E (bif !true then a else b) tm σ Q=bJ E b tm σ Q:=rfl
def alh(a b:AC):bJ E (bif !false then a else b) tm σ Q=bJ E a tm σ Q:=rfl
def agv(n:Nat)(b:AC)(r:List (Nat×Option (Nat×Bool))):bJ E (AF.body ⟨n,b,r⟩) tm σ Q=bJ E b tm σ Q:=rfl
def agw(P:Bool->Prop):ifV (.c (.bool true)) P=P true:=rfl
def adB(P:Bool->Prop):ifV (.c (.bool false)) P=P false:=rfl
def ali(b:Bool)(P:Bool->Prop):ifV (.c (.bool (!b))) P=ifV (.c (.bool b)) λt=>P (!t):=rfl
def aH{p:Prop}[Decidable p]{P:Bool->Prop}(h1:p->P true)(h2:¬p->P false):ifV (.c (.bool (decide p))) P:=by
 show P (decide p);by_cases h:p
 .grind
 grind
def atD{b:Bool}{P:Bool->Prop}(h1:b=true->P true)(h2:b=false->P false):ifV (.c (.bool b)) P:=by
 show P b;cases b with
 |true=>grind
 |false=>grind
def tick:Prop:=∀n:Nat,n=n
def adC:tick=True:=propext ⟨λ_=>trivial,λ_ _=>rfl⟩
@[congr] theorem asr {z:Prop} {v v' : V} {P:Bool→Prop} (hz:tick=z) (h:v=v'):ifV v P=ifV v' P:=by rw [h]
@[congr] theorem asu {z:Prop} {v v' : Option V} {P:V→Prop} (hz:tick=z) (h:v=v'):FZ v P=FZ v' P:=by rw [h]
@[congr] theorem ap1 {z:Prop} {c:AC} {tm tm' : Tr V} {σ σ' : St} {Q:AX→Tr V→St→Prop} (hz:tick=z) (h:tm=tm') (h2:σ=σ'):bJ E c tm σ Q=bJ E c tm' σ' Q:=by rw [h,h2]
@[congr] theorem an0 {z:Prop} {c:List AO} {tm tm' : Tr V} {σ σ' : St} {Q:Tr V→St→Prop} (hz:tick=z) (h:tm=tm') (h2:σ=σ'):wpOps E c tm σ Q=wpOps E c tm' σ' Q:=by rw [h,h2]
@[congr] theorem asv {z:Prop} {c:AO} {tm tm' : Tr V} {σ σ' : St} {Q:V→St→Prop} (hz:tick=z) (h:tm=tm') (h2:σ=σ'):wpG E c tm σ Q=wpG E c tm' σ' Q:=by rw [h,h2]
@[congr] theorem ap2 {z:Prop} {c:uU} {tm tm' : Tr V} {σ σ' : St} {Q:V→St→Prop} (hz:tick=z) (h:tm=tm') (h2:σ=σ'):wpOp E c tm σ Q=wpOp E c tm' σ' Q:=by rw [h,h2]
@[congr] theorem an1 {z:Prop} {f:Nat} {a a' : List V} {σ σ' : St} {Q:V→St→Prop} (hz:tick=z) (h:a=a') (h2:σ=σ'):aC E f a σ Q=aC E f a' σ' Q:=by rw [h,h2]
@[congr] theorem asw {z:Prop} {dA bK:Tr V} {qs:List DO} {σ σ' : St} {res res' : List Rs} {pd pd' : List iL} {K:St→List Rs→List iL→Prop} (hz:tick=z) (h2:σ=σ') (h3:res=res') (h4:pd=pd'):uo dA bK qs σ res pd K=uo dA bK qs σ' res' pd' K:=by grind
@[congr] theorem asx {z:Prop} {pt:List (List Nat)} {dA bK:Tr V} {d:Dr} {σ σ' : St} {res res' : List Rs} {pd pd' : List iL} {K:Tr V→St→Prop} (hz:tick=z) (h2:σ=σ') (h3:res=res') (h4:pd=pd'):VK E pt dA bK d σ res pd K=VK E pt dA bK d σ' res' pd' K:=by grind
@[congr] theorem asy {z:Prop} {σ σ' : St} {pd pd' : List iL} (hz:tick=z) (h:σ=σ') (h2:pd=pd'):agn σ pd=agn σ' pd':=by rw [h,h2]
@[congr] theorem ap3 {z:Prop} {i i' : Nat} {o:AO} {tm:Tr V} {v:V} {g:Bool} {nm:Option Nat} (hz:tick=z) (h:i=i'):iL.mk i o tm v g nm=iL.mk i' o tm v g nm:=by rw [h]
@[congr] theorem an2 {z:Prop} {σ σ' : St} {p:iL} (hz:tick=z) (h:σ=σ'):again σ p=again σ' p:=by rw [h]
@[congr] theorem asz {z:Prop} {dA bK:Tr V} {res:List Rs} {us us' os:List Nat} (hz:tick=z) (h:us=us'):L8 dA bK res us os=L8 dA bK res us' os:=by rw [h]
@[congr] theorem ap4 {z:Prop} {bK:Tr V} {res:List Rs} {us us' : List Nat} (hz:tick=z) (h:us=us'):IE bK res us=IE bK res us':=by rw [h]
@[congr] theorem asA {z:Prop} {res:List Rs} {u u' : Nat} (hz:tick=z) (h:u=u'):fnd res u=fnd res u':=by rw [h]
@[congr] theorem an3 {z:Prop} {dA tm:Tr V} {os os' : List Nat} (hz:tick=z) (h:os=os'):EM dA tm os=EM dA tm os':=by rw [h]
@[congr] theorem ap5 {z:Prop} {g:Option (Nat×Bool)} {tm:Tr V} {A B:Prop} (hz:tick=z):A8 g tm A B=A8 g tm A B:=rfl
@[congr] theorem asB {z:Prop} {v v' : V} {b:Bool} {A B:Prop} (hz:tick=z) (h:v=v'):gsV v b A B=gsV v' b A B:=by rw [h]
@[congr] theorem atE {z:Prop} {g:Option (Nat×Bool)} {dA bK:Tr V} {res:List Rs} {us os:List Nat} {σ:St} {pd:List iL} {i:Nat} {d:Option Nat} {op:uU} {l:List DO} {K:St→List Rs→List iL→Prop} (hz:tick=z):qR g dA bK res us os σ pd i d op l K=qR g dA bK res us os σ pd i d op l K:=rfl
def alj(E:Env)(d:Option Nat)(g:Option (Nat×Bool))(op:uU)(tm:Tr V)(σ:St)(K:V->St->Prop):wpG E ⟨d,g,op⟩ tm σ K=A8 g tm (wpOp E op tm σ K) (K .tnil σ):=rfl
def ap6(x:O)(K:V->St->Prop):wpOp E (.mov x) tm σ K=FZ (some (x.ev tm)) λv=>K v σ:=rfl
def ap7(b:AC):SQ E b Q .normal tm σ=bJ E b tm σ Q:=rfl
def ap8(b:AC)(i:Nat):SQ E b Q (.exit i) tm σ=Q (.exit i) tm σ:=rfl
def ap9(b:AC):SQ E b Q .ret tm σ=Q .ret tm σ:=rfl
def aqa(i:Nat):afN i Q .normal tm σ=Q .normal tm σ:=rfl
def aqb(i j:Nat):afN i Q (.exit j) tm σ=Q (bif Nat.beq j i then .normal else .exit j) tm σ:=rfl
def aqc(i:Nat):afN i Q .ret tm σ=Q .ret tm σ:=rfl
variable (I:Nat→Tr V→St→Prop) (m:Nat) (res:List (Nat×Option (Nat×Bool))) (K:V→St→Prop)
def aqd:akB I m Q .normal tm σ=∃m',m'<m/\I m' tm σ:=rfl
def aqe(i:Nat):akB I m Q (.exit i) tm σ=Q (.exit i) tm σ:=rfl
def aqf:akB I m Q .ret tm σ=Q .ret tm σ:=rfl
def alk:Y6 res K .normal tm σ=FZ (result tm σ res) λv=>K v σ:=by unfold Y6 FZ;grind
def aqg:Y6 res K .ret tm σ=FZ (result tm σ res) λv=>K v σ:=by unfold Y6 FZ;grind
end
def aqh(p q:Rat):decide (oJ p q<0)=decide (p<q):=by
 by_cases h:p<q
 .rw[bB h,bB];exact pY.mpr h
 .rw[az h,az];exact λe=>h (pY.mp e)
def agx(tm:Tr V)(d:Nat)(v:V):Tr.get (Ei tm (some d) v) d=some v:=by grind[Ei,Tr.sV]
def aqi(tm:Tr V)(d j:Nat)(v:V)(h:j≠d):Tr.get (Ei tm (some d) v) j=Tr.get tm j:=by grind[Ei,Tr.sV]
def Ze(tm:Tr V)(σ:St):oL tm σ []=some .tnil:=rfl
def agy(tm:Tr V)(σ:St)(t:Nat)(r:List (Nat×Option (Nat×Bool))):oL tm σ ((t,none)::r)=match tm.get t,oL tm σ r with|some v,some w=>some (.aX v w)|_,_=>none:=rfl
def agz(tm:Tr V)(σ:St)(t n:Nat)(g:Bool)(r:List (Nat×Option (Nat×Bool))):oL tm σ ((t,some (n,g))::r)=match(match tm.ah t with|.c (.ptr b o)=>ld σ.h b o n g|_=>none),oL tm σ r with|some v,some w=>some (.aX v w)|_,_=>none:=rfl
def Fr.new1{σ:St}{h:Tr Bk}{n:Nat}{k:Bk}(hf:Fr σ ⟨h,n⟩):Fr σ ⟨hset h n k,n+1⟩:=Fr.new hf k
def Fr.set1{σ:St}{h:Tr Bk}{n b:Nat}{k:Bk}(hf:Fr σ ⟨h,n⟩)(h1:σ.aj<=b)(h2:b<n):Fr σ ⟨hset h b k,n⟩:=Fr.set hf h1 h2 k
def ak{h:Tr Bk}{b:Nat}{k:Bk}(e:h b=some k)(o n:Nat)(g:Bool):ld h b o n g=bif k.rd then yO k.cells o n g else none:=by unfold ld;rw[e]
def aI{h:Tr Bk}{b:Nat}{k:Bk}(e:h b=some k)(o:Nat)(vs:List B):sto h b o vs=match bif k.pl then xC k.cells o vs else none with|some l=>some (hset h b ⟨l,k.opn⟩)|none=>none:=by grind[sto]
def plo(o:Option (Nat×Nat)):Bool:=match o with|some (0,_)=>false|_=>true
def Yk(o:Option (Nat×Nat)):Bool:=match o with|some (0,t)=>Nat.beq t 1|_=>true
def aqj(k:Bk):k.pl=plo k.opn:=rfl
def Nc(k:Bk):k.rd=Yk k.opn:=rfl
def agA:plo none=true:=rfl
def agB:Yk none=true:=rfl
def an4(e t:Nat)(h:e≠0):plo (some (e,t))=true:=by cases e with|zero=>omega|succ e=>rfl
def BU(e t:Nat)(h:e≠0):Yk (some (e,t))=true:=by cases e with|zero=>omega|succ e=>rfl
def atF:Yk (some (0,1))=true:=rfl
def agC(k:IntKind)(n:Int):B.kn (.int k n)=true:=rfl
theorem Aa(b:Bool):B.kn (.bool b)=true:=rfl
theorem Fp(s:ByteArray):B.kn (.str s)=true:=rfl
def aqk(b o:Nat):B.kn (.ptr b o)=true:=rfl
def alm:B.kn .RU=true:=rfl
def atG(b o n:Nat)(c:Cap):B.kn (.sl b o n c)=true:=rfl
def aln:B.kn .aW=true:=rfl
def atH(b:Nat):B.kn (.mp b)=true:=rfl
def HL.kn{h:Tr Bk}{e:Nat}{v:B}{n:Nat}{G:Nat->List B}(hl:HL h e v n G):v.kn=true:=by rcases hl with⟨-,rfl⟩|⟨b,o,c,rfl,-⟩<;>rfl
def HC.kn{h:Tr Bk}{v:B}{n:Nat}{G:Nat->B}(hl:HC h v n G):v.kn=true:=by rcases hl with⟨-,rfl⟩|⟨b,o,c,rfl,-⟩<;>rfl
def atI(x:B)(l:List B)(o n:Nat):yO (x::l) o n true=bif Nat.beq (((x::l).drop o).take n).length n&&(((x::l).drop o).take n).all B.kn then some (.agg (((x::l).drop o).take n))else none:=rfl
def atJ(x:B)(l:List B)(o n:Nat):yO (x::l) o n false=match(x::l).drop o with|x::_=>bif x.kn then some (.c x)else none|[]=>none:=rfl
def atK(x:B)(l vs:List B):xC (x::l) 0 vs=bif Nat.ble vs.length (x::l).length then some (vs++(x::l).drop vs.length)else none:=by rw[xC]
def atL(x:B)(l:List B)(o:Nat)(vs:List B):xC (x::l) (o+1) vs=match xC l o vs with|some r=>some (x::r)|none=>none:=by rfl
def agD(a b:Nat):(Int.ofNat a=Int.ofNat b)=(a=b):=propext ⟨Int.ofNat.inj,λe=>by rw[e]⟩
def eq_neg(a b:Nat):(Int.ofNat a=Int.negSucc b)=False:=by simp
def atM[h:Decidable True]: @decide True h=true:=by simp
def atN[h:Decidable False]: @decide False h=false:=by simp
attribute [go_sem] adC alg alh apZ ap0 agv adu wpOps_cons afX apk o_load akJ akK akL apl ath apm apn apo apq ati atj atl atm atn ato atp apr aps atq atr att akM akN apt atv atu atw akO BH apu YP atx akI adt apv akP aty apw JA rep atz akQ apx awp awq adh akG adi adk adl adn ado adp adq adr V.cells akH atg afW apj aA awr awt cL eg Bool.and_true Bool.true_and List.drop_succ_cons gi fD cF bN List.length_nil Nat.reduceAdd cG cA aa5 Nb uY ES au df List.nil_append gl List.map_cons List.map_nil result afV aG akX akY akT apG ak1 ak3 af9 agb agd apJ apM apO agh agj apQ apS ak4 agl ak6 apU agp ak8 ala ady akU akV apy af0 adv af2 akR af4 adw Zb af5 adx afZ akW af6 apI ak2 aga agc agf apL apN apP agi agk apR apT ak5 agm ak7 apV agq ak9 alb Zd VY adA akZ atA Zc adz List.contains_cons List.contains_nil Nat.reduceBEq Bool.or_false Bool.or_true Bool.false_or Bool.true_or cn ff List.getD_cons_zero List.getD_cons_succ am and_true alj apz apA apB apC apD apE akS atB ak0 ap6 apX atC seq_eq agu ald ale apY alf agw adB ali ap7 ap8 ap9 aqa aqb aqc aqd aqe aqf alk aqg aqh agC Aa Fp aqk alm atG aln atH atI atJ atK atL agD eq_neg atM atN aqj Nc agA agB an4 BU atF agx aqi Ze agy agz atd Y8 Y9 afU adg ate atf ape afT atb apc afS adf VR apa VP apb VQ ade atc akE aa4 apf VU apg aph akF VT
end Go.Proofs.Xe
