import Derived.Test.YtchhojplceoifaaGreatDoorYe10
import Derived.Attr
set_option linter.all false
namespace Go.Proofs.Xe
open Go.RowKit Go.Proofs.Ins
noncomputable def ZW(tm:Tr V):List Nat->Tr V
 |[]=>tm
 |d::l=>(ZW tm l).set d none
def Jk(tm:Tr V):∀ds,AL tm ds=some (ZW tm ds)
 |[]=>rfl
 |d::l=>by unfold AL;rw[Jk tm l];rfl
theorem abR(tm:Tr V)(j:Nat):∀ds:List Nat,ds.contains j=false->(ZW tm ds).get j=tm.get j
 |[],_=>rfl
 |d::l,h=>by rw[List.contains_cons,Bool.or_eq_false_iff]at h;show((ZW tm l).set d none).get j=_;rw[Tr.uz,ae (by simpa using h.1),abR tm j l h.2]
def agN(tm:Tr V)(ds:List Nat)(j:Nat)(h:ds.contains j=false):Tr.ah (ZW tm ds) j=Tr.ah tm j:=by grind[Tr.ah,abR]
def fnd:List Rs->Nat->Option Rs
 |[],_=>none
 |r::l,u=>bif Nat.beq r.i u then some r else fnd l u
def WY(u:Nat):∀l:List Rs,l.find? (λr=>Nat.beq r.i u)=fnd l u
 |[]=>rfl
 |r::l=>by rw[List.find?_cons,fnd,WY u l];cases Nat.beq r.i u<;>rfl
noncomputable def tmO:Option (Tr V)->Option Rs->Option (Tr V)
 |some tm,some r=>some (EU tm r.d r.v)
 |_,_=>none
def agO(bY:Tr V)(res:List Rs):Jc bY res []=some bY:=rfl
def aed(bY:Tr V)(res:List Rs)(u:Nat)(us:List Nat):Jc bY res (u::us)=tmO (Jc bY res us) (fnd res u):=by
 rw[Jc,WY];cases Jc bY res us with
 |none=>rfl
 |some tm=>
  cases fnd res u with
  |none=>rfl
  |some r=>show Jb tm r.d r.v=_;rw[Ld];rfl
def agP(tm:Tr V)(i:Nat)(d:Option Nat)(v:V):tmO (some tm) (some ⟨i,d,v⟩)=some (EU tm d v):=rfl
def alE(i:Nat)(d:Option Nat)(v:V)(l:List Rs):fnd (⟨i,d,v⟩::l) i=some ⟨i,d,v⟩:=by unfold fnd;simp
def agQ(i u:Nat)(d:Option Nat)(v:V)(l:List Rs)(h:i≠u):fnd (⟨i,d,v⟩::l) u=fnd l u:=by grind[fnd,QY]
def aee(dU tm:Tr V):FB dU tm []=some tm:=rfl
def ZX(dU tm:Tr V)(t:Nat)(l:List Nat):FB dU tm (t::l)=match FB dU tm l with|some tm=>some (EU tm (some t) (dU.ah t))|none=>none:=by rfl
def aqH(dU bY:Tr V)(res:List Rs)(us os:List Nat):Np dU bY res us os=match Jc bY res us with|some tm=>FB dU tm os|none=>none:=rfl
def agR(bY:Tr V):KA bY []=some bY:=rfl
def aef(bY:Tr V)(i:Nat)(d:Option Nat)(v:V)(l:List Rs):KA bY (⟨i,d,v⟩::l)=match KA bY l with|some tm=>some (EU tm d v)|none=>none:=by grind[KA,Ld]
def BQ(g:Option (Nat×Bool))(tm:Tr V)(A B:Prop):Prop:=match gate g tm with|some true=>A|some false=>B|none=>False
def gsV(v:V)(b:Bool)(A B:Prop):Prop:=match v with|.c (.bool c)=>(bif c==b then A else B)|.tnil=>B|_=>False
def aqI(tm:Tr V)(A B:Prop):BQ none tm A B=A:=rfl
def aqJ(t:Nat)(b:Bool)(tm:Tr V)(A B:Prop):BQ (some (t,b)) tm A B=gsV (tm.ah t) b A B:=by grind[BQ,gsV,gate]
def aqK(A B:Prop):gsV (.c (.bool true)) true A B=A:=rfl
def aqL(A B:Prop):gsV (.c (.bool true)) false A B=B:=rfl
def aqM(A B:Prop):gsV (.c (.bool false)) true A B=B:=rfl
def aqN(A B:Prop):gsV (.c (.bool false)) false A B=A:=rfl
def alF(b:Bool)(A B:Prop):gsV .tnil b A B=B:=rfl
def abS{p:Prop}[Decidable p]{A B:Prop}(h1:p->A)(h2:¬p->B):gsV (.c (.bool (decide p))) true A B:=by
 by_cases h:p
 .rw[bh h];exact h1 h
 .rw[az h];exact h2 h
def WZ{p:Prop}[Decidable p]{A B:Prop}(h1:p->B)(h2:¬p->A):gsV (.c (.bool (decide p))) false A B:=by
 by_cases h:p
 .rw[bh h];exact h1 h
 .rw[az h];exact h2 h
def vF(dU bY:Tr V)(qs:List DO)(σ:St)(res:List Rs)(pd:List iW)(K:St->List Rs->List iW->Prop):Prop:=
 match yA dU bY qs σ res pd with
 |some (σ,res,pd)=>K σ res pd
 |none=>False
def alG(dU bY:Tr V)(σ:St)(res:List Rs)(pd:List iW)(K:St->List Rs->List iW->Prop):vF dU bY [] σ res pd K=K σ res pd:=rfl
section
variable (E:Env) (pt:List (List Nat)) (dU bY:Tr V) (σ:St) (res:List Rs) (pd:List iW)
def qA(i:Nat)(us os:List Nat)(d:Option Nat)(g:Option (Nat×Bool))(op:vZ)(l:List DO)(K:St->List Rs->List iW->Prop)(h:op.kind=.q):
  vF dU bY (⟨i,us,os,⟨d,g,op⟩⟩::l) σ res pd K=match Np dU bY res us os with
   |some tm=>BQ g tm (wpOp E op tm σ λv _=>vF dU bY l σ (⟨i,d,v⟩::res) (⟨i,⟨d,g,op⟩,tm,v,true,none⟩::pd) K) (vF dU bY l σ (⟨i,d,.tnil⟩::res) (⟨i,⟨d,g,op⟩,tm,.tnil,false,none⟩::pd) K)
   |none=>False:=by
 unfold vF BQ
 rw[yA]
 dsimp only
 cases Np dU bY res us os with
 |none=>rfl
 |some tm=>
  dsimp only
  have hc:∀g l,op≠.call g l:=λg l e=>by rw[e]at h;cases h
  grind[iG,Gq]
def aeg(i:Nat)(us os:List Nat)(d:Option Nat)(g:Option (Nat×Bool))(z:List B)(l:List DO)(K:St->List Rs->List iW->Prop):
  vF dU bY (⟨i,us,os,⟨d,g,.alloc z⟩⟩::l) σ res pd K=match Np dU bY res us os with
   |some tm=>BQ g tm (vF dU bY l ⟨hset σ.h σ.aj ⟨z,none⟩,σ.aj+1⟩ (⟨i,d,.c (.ptr σ.aj 0)⟩::res) (⟨i,⟨d,g,.alloc z⟩,tm,.c (.ptr σ.aj 0),true,some σ.aj⟩::pd) K)
    (vF dU bY l σ (⟨i,d,.tnil⟩::res) (⟨i,⟨d,g,.alloc z⟩,tm,.tnil,false,none⟩::pd) K)
   |none=>False:=by
 unfold vF BQ
 rw[yA]
 dsimp only
 cases Np dU bY res us os with
 |none=>rfl
 |some tm=>
  grind[vZ.kind,nO,kL]
def alH(i:Nat)(us os:List Nat)(d:Option Nat)(g:Option (Nat×Bool))(x:O)(l:List DO)(K:St->List Rs->List iW->Prop):
  vF dU bY (⟨i,us,os,⟨d,g,.box x⟩⟩::l) σ res pd K=match Np dU bY res us os with
   |some tm=>BQ g tm (match(x.ev tm).cells with
    |some z=>vF dU bY l ⟨hset σ.h σ.aj ⟨z,none⟩,σ.aj+1⟩ (⟨i,d,.c (.ptr σ.aj 0)⟩::res) (⟨i,⟨d,g,.box x⟩,tm,.c (.ptr σ.aj 0),true,some σ.aj⟩::pd) K
    |none=>False) (vF dU bY l σ (⟨i,d,.tnil⟩::res) (⟨i,⟨d,g,.box x⟩,tm,.tnil,false,none⟩::pd) K)
   |none=>False:=by
 unfold vF BQ
 rw[yA]
 dsimp only
 cases Np dU bY res us os with
 |none=>rfl
 |some tm=>
  grind[vZ.kind,nO,kL]
def alI(i:Nat)(us os:List Nat)(d:Option Nat)(g:Option (Nat×Bool))(e n:Nat)(z:List B)(ps:List (Nat×Nat×O))(l:List DO)(K:St->List Rs->List iW->Prop)(hn:n*e<=16777216)(hn2:n<=16777216):
  vF dU bY (⟨i,us,os,⟨d,g,.bsl e n z ps⟩⟩::l) σ res pd K=match Np dU bY res us os with
   |some tm=>BQ g tm (match CP (rep z n) (ps.map λp=>(p.1,p.2.1,p.2.2.ev tm))with
    |some c=>vF dU bY l ⟨hset σ.h σ.aj ⟨c,none⟩,σ.aj+1⟩ (⟨i,d,.c (.sl σ.aj 0 n (.ex n))⟩::res) (⟨i,⟨d,g,.bsl e n z ps⟩,tm,.c (.sl σ.aj 0 n (.ex n)),true,some σ.aj⟩::pd) K
    |none=>False) (vF dU bY l σ (⟨i,d,.tnil⟩::res) (⟨i,⟨d,g,.bsl e n z ps⟩,tm,.tnil,false,none⟩::pd) K)
   |none=>False:=by
 unfold vF BQ
 rw[yA]
 dsimp only
 cases Np dU bY res us os with
 |none=>rfl
 |some tm=>
  grind[vZ.kind,nO,xH,kL]
def agn(σ:St):List iW->Prop
 |[]=>True
 |p::l=>again σ p=true/\agn σ l
theorem Uh(σ:St):∀l:List iW,(l.all (again σ)=true)=agn σ l
 |[]=>by simp[agn]
 |p::l=>by rw[cW,af,Uh σ l];rfl
def alJ(σ:St):agn σ []=True:=rfl
def agS(σ:St)(p:iW)(l:List iW):agn σ (p::l)=(again σ p=true/\agn σ l):=rfl
def aeh(l:List Nat):List iW->List iW
 |[]=>[]
 |p::pd=>bif l.contains p.i then aeh l pd else p::aeh l pd
theorem agT(l:List Nat):∀pd:List iW,pd.filter (λp=>!(l.contains p.i))=aeh l pd
 |[]=>rfl
 |p::pd=>by rw[List.filter_cons,aeh,agT l pd];cases l.contains p.i<;>rfl
def alK(qs:List DO)(Q:Tr V->St->Prop):WO E pt dU bY (.fin qs) σ res pd Q=vF dU bY qs σ res pd λσ res pd=>agn σ pd/\(match KA bY res with|some tm=>Q tm σ|none=>False):=by grind[WO,vF,Uh]
def alL(qs:List DO)(i:Nat)(us os:List Nat)(d:Option Nat)(g:Option (Nat×Bool))(op:vZ)(r:Dr)(Q:Tr V->St->Prop):
  WO E pt dU bY (.act qs ⟨i,us,os,⟨d,g,op⟩⟩ r) σ res pd Q=vF dU bY qs σ res pd λσ res pd=>agn σ pd/\(match Np dU bY res us os with
   |some tm=>wpG E ⟨d,g,op⟩ tm σ λv σ'=>WO E pt dU bY r σ' (⟨i,d,v⟩::res) (aeh (pt.getD i []) pd) Q
   |none=>False):=by
 grind[WO,vF,Uh,agT]
def agU(b:B):adC b b=b.kn:=by
 cases b<;>simp[adC,B.kn]
 case int k n=>cases n<;>simp[eqI]
 case sl b o n c=>cases c<;>simp[eqC]
def ZY:∀l:List B,Nl l l=l.all B.kn
 |[]=>rfl
 |b::l=>by rw[cW];unfold Nl;rw[agU b,ZY l]
def alM(l:List B):eqV (.agg l) (.agg l)=l.all B.kn:=ZY l
def auW(b:B):eqV (.c b) (.c b)=b.kn:=agU b
def ji(i:Nat)(d:Option Nat)(g9:Option (Nat×Bool))(op:vZ)(tm:Tr V)(v:V)(h:op.kind=.q)(h2:op.looks=false):again σ ⟨i,⟨d,g9,op⟩,tm,v,true,none⟩=true:=by grind[again]
def Z4(i:Nat)(d:Option Nat)(g9:Option (Nat×Bool))(n:Nat)(g:Bool)(x:O)(tm:Tr V)(v:V):again σ ⟨i,⟨d,g9,.load n g x⟩,tm,v,true,none⟩=match(match x.ev tm with|.c (.ptr b o)=>ld σ.h b o n g|_=>none)with|some u=>eqV u v|none=>false:=by rfl
def W9(i:Nat)(d:Option Nat)(g9:Option (Nat×Bool))(z:List B)(tm:Tr V)(v:V)(b:Nat):again σ ⟨i,⟨d,g9,.alloc z⟩,tm,v,true,some b⟩=match σ.h b with|some ⟨c,none⟩=>Nl c z|_=>false:=by rfl
def aei(i:Nat)(d:Option Nat)(g9:Option (Nat×Bool))(e n:Nat)(z:List B)(ps:List (Nat×Nat×O))(tm:Tr V)(v:V)(b:Nat)(hn:n*e<=16777216)(hn2:n<=16777216):again σ ⟨i,⟨d,g9,.bsl e n z ps⟩,tm,v,true,some b⟩=match CP (rep z n) (ps.map λp=>(p.1,p.2.1,p.2.2.ev tm))with|some z=>(match σ.h b with|some ⟨c,none⟩=>Nl c z|_=>false)|none=>false:=by grind[again,vZ.kind,nO,xH]
end
def alN(σ:St)(i:Nat)(o:AO)(tm:Tr V)(v:V)(nm:Option Nat):again σ ⟨i,o,tm,v,false,nm⟩=true:=rfl
section
def E0:Env:=⟨λ_=>none,λ_ _ _=>none⟩
variable (dU bY tm:Tr V) (σ:St) (res:List Rs) (pd:List iW) (i:Nat) (us os:List Nat) (d:Option Nat) (g9:Option (Nat×Bool)) (l:List DO) (K:St→List Rs→List iW→Prop) (v:V)
def qR(g:Option (Nat×Bool))(dU bY:Tr V)(res:List Rs)(us os:List Nat)(σ:St)(pd:List iW)(i:Nat)(d:Option Nat)(op:vZ)(l:List DO)(K:St->List Rs->List iW->Prop):Prop:=match Np dU bY res us os with
 |some tm=>BQ g tm (wpOp E0 op tm σ λv _=>vF dU bY l σ (⟨i,d,v⟩::res) (⟨i,⟨d,g,op⟩,tm,v,true,none⟩::pd) K) (vF dU bY l σ (⟨i,d,.tnil⟩::res) (⟨i,⟨d,g,op⟩,tm,.tnil,false,none⟩::pd) K)
 |none=>False
def auX(g:Option (Nat×Bool))(dU bY:Tr V)(res:List Rs)(us os:List Nat)(σ:St)(pd:List iW)(i:Nat)(d:Option Nat)(op:vZ)(l:List DO)(K:St->List Rs->List iW->Prop):qR g dU bY res us os σ pd i d op l K=match Np dU bY res us os with
 |some tm=>BQ g tm (wpOp E0 op tm σ λv _=>vF dU bY l σ (⟨i,d,v⟩::res) (⟨i,⟨d,g,op⟩,tm,v,true,none⟩::pd) K) (vF dU bY l σ (⟨i,d,.tnil⟩::res) (⟨i,⟨d,g,op⟩,tm,.tnil,false,none⟩::pd) K)
 |none=>False:=rfl
def aqO(x:O):vF dU bY (⟨i,us,os,⟨d,g9,.mov x⟩⟩::l) σ res pd K=qR g9 dU bY res us os σ pd i d (.mov x) l K:=qA E0 _ _ _ _ _ _ _ _ _ _ _ _ _ rfl
def aqP(x:O):again σ ⟨i,⟨d,g9,.mov x⟩,tm,v,true,none⟩=true:=ji _ _ _ _ _ _ _ rfl rfl
def alO(c a b:O):vF dU bY (⟨i,us,os,⟨d,g9,.pick c a b⟩⟩::l) σ res pd K=qR g9 dU bY res us os σ pd i d (.pick c a b) l K:=qA E0 _ _ _ _ _ _ _ _ _ _ _ _ _ rfl
def alP(c a b:O):again σ ⟨i,⟨d,g9,.pick c a b⟩,tm,v,true,none⟩=true:=ji _ _ _ _ _ _ _ rfl rfl
def alQ(n:Nat)(g:Bool)(x:O):vF dU bY (⟨i,us,os,⟨d,g9,.load n g x⟩⟩::l) σ res pd K=qR g9 dU bY res us os σ pd i d (.load n g x) l K:=qA E0 _ _ _ _ _ _ _ _ _ _ _ _ _ rfl
def agV(n:Nat)(x:O):vF dU bY (⟨i,us,os,⟨d,g9,.CO n x⟩⟩::l) σ res pd K=qR g9 dU bY res us os σ pd i d (.CO n x) l K:=qA E0 _ _ _ _ _ _ _ _ _ _ _ _ _ rfl
def agW(n:Nat)(x:O):again σ ⟨i,⟨d,g9,.CO n x⟩,tm,v,true,none⟩=true:=ji _ _ _ _ _ _ _ rfl rfl
def agX(o n:Nat)(g:Bool)(x:O):vF dU bY (⟨i,us,os,⟨d,g9,.field o n g x⟩⟩::l) σ res pd K=qR g9 dU bY res us os σ pd i d (.field o n g x) l K:=qA E0 _ _ _ _ _ _ _ _ _ _ _ _ _ rfl
def agY(o n:Nat)(g:Bool)(x:O):again σ ⟨i,⟨d,g9,.field o n g x⟩,tm,v,true,none⟩=true:=ji _ _ _ _ _ _ _ rfl rfl
def agZ(e:Nat)(x j:O):vF dU bY (⟨i,us,os,⟨d,g9,.Fv e x j⟩⟩::l) σ res pd K=qR g9 dU bY res us os σ pd i d (.Fv e x j) l K:=qA E0 _ _ _ _ _ _ _ _ _ _ _ _ _ rfl
def ag0(e:Nat)(x j:O):again σ ⟨i,⟨d,g9,.Fv e x j⟩,tm,v,true,none⟩=true:=ji _ _ _ _ _ _ _ rfl rfl
def aqQ(n:Nat)(x:O):vF dU bY (⟨i,us,os,⟨d,g9,.ext n x⟩⟩::l) σ res pd K=qR g9 dU bY res us os σ pd i d (.ext n x) l K:=qA E0 _ _ _ _ _ _ _ _ _ _ _ _ _ rfl
def aqR(n:Nat)(x:O):again σ ⟨i,⟨d,g9,.ext n x⟩,tm,v,true,none⟩=true:=ji _ _ _ _ _ _ _ rfl rfl
def aqS(b:BinOp)(x y:O):vF dU bY (⟨i,us,os,⟨d,g9,.bin b x y⟩⟩::l) σ res pd K=qR g9 dU bY res us os σ pd i d (.bin b x y) l K:=qA E0 _ _ _ _ _ _ _ _ _ _ _ _ _ rfl
def aqT(b:BinOp)(x y:O):again σ ⟨i,⟨d,g9,.bin b x y⟩,tm,v,true,none⟩=true:=ji _ _ _ _ _ _ _ rfl rfl
def aqU(p:Bool)(x y:O):vF dU bY (⟨i,us,os,⟨d,g9,.eqb p x y⟩⟩::l) σ res pd K=qR g9 dU bY res us os σ pd i d (.eqb p x y) l K:=qA E0 _ _ _ _ _ _ _ _ _ _ _ _ _ rfl
def aqV(p:Bool)(x y:O):again σ ⟨i,⟨d,g9,.eqb p x y⟩,tm,v,true,none⟩=true:=ji _ _ _ _ _ _ _ rfl rfl
def ag1(p:Bool)(x y:O):vF dU bY (⟨i,us,os,⟨d,g9,.Fz p x y⟩⟩::l) σ res pd K=qR g9 dU bY res us os σ pd i d (.Fz p x y) l K:=qA E0 _ _ _ _ _ _ _ _ _ _ _ _ _ rfl
def ag2(p:Bool)(x y:O):again σ ⟨i,⟨d,g9,.Fz p x y⟩,tm,v,true,none⟩=true:=ji _ _ _ _ _ _ _ rfl rfl
def ag3(p:Bool)(x y:O):vF dU bY (⟨i,us,os,⟨d,g9,.GX p x y⟩⟩::l) σ res pd K=qR g9 dU bY res us os σ pd i d (.GX p x y) l K:=qA E0 _ _ _ _ _ _ _ _ _ _ _ _ _ rfl
def ag4(p:Bool)(x y:O):again σ ⟨i,⟨d,g9,.GX p x y⟩,tm,v,true,none⟩=true:=ji _ _ _ _ _ _ _ rfl rfl
def aqW(k:Nat)(p:Bool)(x:O):vF dU bY (⟨i,us,os,⟨d,g9,.nil k p x⟩⟩::l) σ res pd K=qR g9 dU bY res us os σ pd i d (.nil k p x) l K:=qA E0 _ _ _ _ _ _ _ _ _ _ _ _ _ rfl
def aqX(k:Nat)(p:Bool)(x:O):again σ ⟨i,⟨d,g9,.nil k p x⟩,tm,v,true,none⟩=true:=ji _ _ _ _ _ _ _ rfl rfl
def aqY(x:O):vF dU bY (⟨i,us,os,⟨d,g9,.not x⟩⟩::l) σ res pd K=qR g9 dU bY res us os σ pd i d (.not x) l K:=qA E0 _ _ _ _ _ _ _ _ _ _ _ _ _ rfl
def aqZ(x:O):again σ ⟨i,⟨d,g9,.not x⟩,tm,v,true,none⟩=true:=ji _ _ _ _ _ _ _ rfl rfl
def alR(k:IntKind)(x:O):vF dU bY (⟨i,us,os,⟨d,g9,.conv k x⟩⟩::l) σ res pd K=qR g9 dU bY res us os σ pd i d (.conv k x) l K:=qA E0 _ _ _ _ _ _ _ _ _ _ _ _ _ rfl
def alS(k:IntKind)(x:O):again σ ⟨i,⟨d,g9,.conv k x⟩,tm,v,true,none⟩=true:=ji _ _ _ _ _ _ _ rfl rfl
def ag5(z:List B)(ps:List (Nat×Nat×O)):vF dU bY (⟨i,us,os,⟨d,g9,.build z ps⟩⟩::l) σ res pd K=qR g9 dU bY res us os σ pd i d (.build z ps) l K:=qA E0 _ _ _ _ _ _ _ _ _ _ _ _ _ rfl
def ag6(z:List B)(ps:List (Nat×Nat×O)):again σ ⟨i,⟨d,g9,.build z ps⟩,tm,v,true,none⟩=true:=ji _ _ _ _ _ _ _ rfl rfl
def alT(f:Nat)(cs:List O):vF dU bY (⟨i,us,os,⟨d,g9,.P7 f cs⟩⟩::l) σ res pd K=qR g9 dU bY res us os σ pd i d (.P7 f cs) l K:=qA E0 _ _ _ _ _ _ _ _ _ _ _ _ _ rfl
def alU(f:Nat)(cs:List O):again σ ⟨i,⟨d,g9,.P7 f cs⟩,tm,v,true,none⟩=true:=ji _ _ _ _ _ _ _ rfl rfl
def aq0(x:O):vF dU bY (⟨i,us,os,⟨d,g9,.len x⟩⟩::l) σ res pd K=qR g9 dU bY res us os σ pd i d (.len x) l K:=qA E0 _ _ _ _ _ _ _ _ _ _ _ _ _ rfl
def aq1(x:O):again σ ⟨i,⟨d,g9,.len x⟩,tm,v,true,none⟩=true:=ji _ _ _ _ _ _ _ rfl rfl
def ag7(e:Nat)(x:O)(lo hi mx:Option O):vF dU bY (⟨i,us,os,⟨d,g9,.slice e x lo hi mx⟩⟩::l) σ res pd K=qR g9 dU bY res us os σ pd i d (.slice e x lo hi mx) l K:=qA E0 _ _ _ _ _ _ _ _ _ _ _ _ _ rfl
def ag8(e:Nat)(x:O)(lo hi mx:Option O):again σ ⟨i,⟨d,g9,.slice e x lo hi mx⟩,tm,v,true,none⟩=true:=ji _ _ _ _ _ _ _ rfl rfl
def alV(x:O):vF dU bY (⟨i,us,os,⟨d,g9,.P8 x⟩⟩::l) σ res pd K=qR g9 dU bY res us os σ pd i d (.P8 x) l K:=qA E0 _ _ _ _ _ _ _ _ _ _ _ _ _ rfl
def alW(x:O):again σ ⟨i,⟨d,g9,.P8 x⟩,tm,v,true,none⟩=true:=ji _ _ _ _ _ _ _ rfl rfl
def alX(x y:O):vF dU bY (⟨i,us,os,⟨d,g9,.min2 x y⟩⟩::l) σ res pd K=qR g9 dU bY res us os σ pd i d (.min2 x y) l K:=qA E0 _ _ _ _ _ _ _ _ _ _ _ _ _ rfl
def alY(x y:O):again σ ⟨i,⟨d,g9,.min2 x y⟩,tm,v,true,none⟩=true:=ji _ _ _ _ _ _ _ rfl rfl
end
def aq2{E:Env}{tm:Tr V}{σ:St}{Q:AX->Tr V->St->Prop}{d:Dr}{pt:List (List Nat)}{ds:List Nat}(h:WO E pt tm (ZW tm ds) d σ [] [] λtm' σ'=>Q .normal tm' σ'):bK E (.drawn d pt ds) tm σ Q:=
 adT _ (Jk tm ds) h
section
variable {E:Env}
theorem alZ{n:Nat}{op:vZ}{tm:Tr V}{σ σ':St}{v:V}{K:V->St->Prop}(h:oV (jf E n) op tm σ=some (v,σ'))(hk:K v σ'):wpOp E op tm σ K:=by
 unfold wpOp;split
 .next g args=>
  unfold oV at h;simp only[vZ.kind]at h;split at h
  .next f a e=>
   unfold abH at e;cases hg:g.ev tm with
   |fn f' caps=>
    dsimp only at e
    rw[hg]at e
    obtain⟨rfl,rfl⟩:=Prod.mk.inj (eC e)
    exact⟨n,v,σ',h,hk⟩
   |_=>grind
  .cases h
 .next hne=>
  have e:oV (λ_ _ _=>none) op tm σ=oV (jf E n) op tm σ:=by
   unfold oV;cases hk2:op.kind with
   |c=>cases op<;>simp only[vZ.kind,reduceCtorEq]at hk2;grind
   |_=>rfl
  grind
def ag9{n:Nat}{o:AO}{tm:Tr V}{σ σ':St}{v:V}{K:V->St->Prop}(h:stepG (jf E n) o tm σ=some (v,σ'))(hk:K v σ'):wpG E o tm σ K:=by grind[wpG,stepG,alZ]
theorem Xa{n:Nat}:∀{l:List AO}{tm tm':Tr V}{σ σ':St}{Q:Tr V->St->Prop},sU (jf E n) l tm σ=some (tm',σ')->Q tm' σ'->wpOps E l tm σ Q
 |[],_,_,_,_,_,h,hq=>by cases h;exact hq
 |o::l,tm,tm',σ,σ',Q,h,hq=>by
  unfold sU at h;split at h
  .next v σ1 e=>
   rw[Ld]at h;exact ag9 e (Xa h hq)
  .cases h
theorem aha{n:Nat}{pt:List (List Nat)}{dU bY:Tr V}:∀{d:Dr}{σ σ':St}{res:List Rs}{pd:List iW}{tm':Tr V}{Q:Tr V->St->Prop},CQ (jf E n) pt dU bY d σ res pd=some (tm',σ')->Q tm' σ'->WO E pt dU bY d σ res pd Q
 |.fin qs,σ,σ',res,pd,tm',Q,h,hq=>by grind[Go.Proofs.Xe.CQ,Go.Proofs.Xe.WO]
 |.act qs x r,σ,σ',res,pd,tm',Q,h,hq=>by
  unfold CQ at h;unfold WO;split at h
  .next σ1 res1 pd1 e=>
   rw[e];dsimp only;cases hb:pd1.all (again σ1)with
   |false=>rw[hb]at h;cases h
   |true=>
    rw[hb]at h
    simp only[cD]at h
    refine⟨rfl,?_⟩
    split at h
    .next VU e2=>
     rw[e2]
     dsimp only
     split at h
     .next v σ2 e3=>exact ag9 e3 (aha h hq)
     .cases h
    .cases h
  .cases h
end
section
variable (E:Env) (tm:Tr V) (σ:St) (Q:AX→Tr V→St→Prop)
def aq3(l:List AO):bK E (.ops l) tm σ Q=wpOps E l tm σ λtm' σ'=>Q .normal tm' σ':=by
 refine propext ⟨?_,aln⟩;rintro⟨n,e,tm',σ',h,hq⟩;cases n with
 |zero=>grind[exec]
 |succ n=>
  simp only[exec,Wj]at h
  grind[Xa]
def auY(d:Dr)(pt:List (List Nat))(ds:List Nat):bK E (.drawn d pt ds) tm σ Q=WO E pt tm (ZW tm ds) d σ [] [] λtm' σ'=>Q .normal tm' σ':=by
 refine propext ⟨?_,aq2⟩;rintro⟨n,e,tm',σ',h,hq⟩;cases n with
 |zero=>grind[exec]
 |succ n=>
  simp only[exec,xDr,Wj,Jk]at h
  grind[aha]
def seq_eq(a b:AC):bK E (.seq a b) tm σ Q=bK E a tm σ (Uf E b Q):=by
 refine propext ⟨?_,run_seq⟩;rintro⟨n,e,tm',σ',h,hq⟩;cases n with
 |zero=>grind[exec]
 |succ n=>
  rw[exec]at h
  cases hx:exec E n a tm σ with
  |none=>rw[hx]at h;cases h
  |some q=>
   rw[hx]at h
   obtain⟨e1,I5,σ1⟩:=q
   refine⟨n,e1,I5,σ1,hx,?_⟩
   cases e1 with
   |normal=>exact⟨n,e,tm',σ',h,hq⟩
   |exit i=>cases h;exact hq
   |ret=>cases h;exact hq
def ahb(i:Nat)(a:AC):bK E (.block i a) tm σ Q=bK E a tm σ (agA i Q):=by
 refine propext ⟨?_,Eo⟩;rintro⟨n,e,tm',σ',h,hq⟩;cases n with
 |zero=>grind[exec]
 |succ n=>
  rw[exec]at h
  cases hx:exec E n a tm σ with
  |none=>rw[hx]at h;cases h
  |some q=>
   rw[hx]at h
   obtain⟨e1,I5,σ1⟩:=q
   refine⟨n,e1,I5,σ1,hx,?_⟩
   cases e1 with
   |normal=>cases h;exact hq
   |exit j=>cases h;exact hq
   |ret=>cases h;exact hq
def al0:bK E .skip tm σ Q=Q .normal tm σ:=by
 refine propext ⟨?_,WL⟩;rintro⟨n,e,tm',σ',h,hq⟩;cases n with
 |zero=>grind[exec]
 |succ n=>grind[exec]
def al1(i:Nat):bK E (.exit i) tm σ Q=Q (.exit i) tm σ:=by
 refine propext ⟨?_,agy⟩;rintro⟨n,e,tm',σ',h,hq⟩;cases n with
 |zero=>grind[exec]
 |succ n=>grind[exec]
def aq4:bK E .ret tm σ Q=Q .ret tm σ:=by
 refine propext ⟨?_,alk⟩;rintro⟨n,e,tm',σ',h,hq⟩;cases n with
 |zero=>grind[exec]
 |succ n=>grind[exec]
def ifV(v:V)(P:Bool->Prop):Prop:=match v with|.c (.bool t)=>P t|_=>False
def al2(x:O)(a b:AC):bK E (.cond x a b) tm σ Q=ifV (x.ev tm) λt=>bK E (bif t then a else b) tm σ Q:=by
 refine propext ⟨?_,λh=>?_⟩
 .rintro⟨n,e,tm',σ',h,hq⟩;cases n with
  |zero=>grind[exec]
  |succ n=>
   simp only[exec,abJ]at h
   split at h
   .next t e=>rw[e];exact⟨n,_,_,_,h,hq⟩
   .cases h
 .unfold ifV at h;grind[agz]
def aq5(a b:AC):bK E (bif true then a else b) tm σ Q=bK E a tm σ Q:=rfl
def aq6(a b:AC):bK E (bif false then a else b) tm σ Q=bK E b tm σ Q:=rfl
def al3(a b:AC):bK E (bif !true then a else b) tm σ Q=bK E b tm σ Q:=rfl
def al4(a b:AC):bK E (bif !false then a else b) tm σ Q=bK E a tm σ Q:=rfl
def ahc(n:Nat)(b:AC)(r:List (Nat×Option (Nat×Bool))):bK E (AF.body ⟨n,b,r⟩) tm σ Q=bK E b tm σ Q:=rfl
def ahd(P:Bool->Prop):ifV (.c (.bool true)) P=P true:=rfl
def aej(P:Bool->Prop):ifV (.c (.bool false)) P=P false:=rfl
def al5(b:Bool)(P:Bool->Prop):ifV (.c (.bool (!b))) P=ifV (.c (.bool b)) λt=>P (!t):=rfl
def aH{p:Prop}[Decidable p]{P:Bool->Prop}(h1:p->P true)(h2:¬p->P false):ifV (.c (.bool (decide p))) P:=by
 show P (decide p);by_cases h:p
 .grind
 grind
def auZ{b:Bool}{P:Bool->Prop}(h1:b=true->P true)(h2:b=false->P false):ifV (.c (.bool b)) P:=by
 show P b;cases b with
 |true=>grind
 |false=>grind
def tick:Prop:=∀n:Nat,n=n
def aek:tick=True:=propext ⟨λ_=>trivial,λ_ _=>rfl⟩
@[congr] theorem atM {z:Prop} {v v' : V} {P:Bool→Prop} (hz:tick=z) (h:v=v'):ifV v P=ifV v' P:=by rw [h]
@[congr] theorem atN {z:Prop} {v v' : Option V} {P:V→Prop} (hz:tick=z) (h:v=v'):Gq v P=Gq v' P:=by rw [h]
@[congr] theorem aq7 {z:Prop} {c:AC} {tm tm' : Tr V} {σ σ' : St} {Q:AX→Tr V→St→Prop} (hz:tick=z) (h:tm=tm') (h2:σ=σ'):bK E c tm σ Q=bK E c tm' σ' Q:=by rw [h,h2]
@[congr] theorem aoV {z:Prop} {c:List AO} {tm tm' : Tr V} {σ σ' : St} {Q:Tr V→St→Prop} (hz:tick=z) (h:tm=tm') (h2:σ=σ'):wpOps E c tm σ Q=wpOps E c tm' σ' Q:=by rw [h,h2]
@[congr] theorem atO {z:Prop} {c:AO} {tm tm' : Tr V} {σ σ' : St} {Q:V→St→Prop} (hz:tick=z) (h:tm=tm') (h2:σ=σ'):wpG E c tm σ Q=wpG E c tm' σ' Q:=by rw [h,h2]
@[congr] theorem aq8 {z:Prop} {c:vZ} {tm tm' : Tr V} {σ σ' : St} {Q:V→St→Prop} (hz:tick=z) (h:tm=tm') (h2:σ=σ'):wpOp E c tm σ Q=wpOp E c tm' σ' Q:=by rw [h,h2]
@[congr] theorem aoW {z:Prop} {f:Nat} {a a' : List V} {σ σ' : St} {Q:V→St→Prop} (hz:tick=z) (h:a=a') (h2:σ=σ'):aC E f a σ Q=aC E f a' σ' Q:=by rw [h,h2]
@[congr] theorem atP {z:Prop} {dU bY:Tr V} {qs:List DO} {σ σ' : St} {res res' : List Rs} {pd pd' : List iW} {K:St→List Rs→List iW→Prop} (hz:tick=z) (h2:σ=σ') (h3:res=res') (h4:pd=pd'):vF dU bY qs σ res pd K=vF dU bY qs σ' res' pd' K:=by grind
@[congr] theorem atQ {z:Prop} {pt:List (List Nat)} {dU bY:Tr V} {d:Dr} {σ σ' : St} {res res' : List Rs} {pd pd' : List iW} {K:Tr V→St→Prop} (hz:tick=z) (h2:σ=σ') (h3:res=res') (h4:pd=pd'):WO E pt dU bY d σ res pd K=WO E pt dU bY d σ' res' pd' K:=by grind
@[congr] theorem atS {z:Prop} {σ σ' : St} {pd pd' : List iW} (hz:tick=z) (h:σ=σ') (h2:pd=pd'):agn σ pd=agn σ' pd':=by rw [h,h2]
@[congr] theorem aq9 {z:Prop} {i i' : Nat} {o:AO} {tm:Tr V} {v:V} {g:Bool} {nm:Option Nat} (hz:tick=z) (h:i=i'):iW.mk i o tm v g nm=iW.mk i' o tm v g nm:=by rw [h]
@[congr] theorem aoX {z:Prop} {σ σ' : St} {p:iW} (hz:tick=z) (h:σ=σ'):again σ p=again σ' p:=by rw [h]
@[congr] theorem atT {z:Prop} {dU bY:Tr V} {res:List Rs} {us us' os:List Nat} (hz:tick=z) (h:us=us'):Np dU bY res us os=Np dU bY res us' os:=by rw [h]
@[congr] theorem ara {z:Prop} {bY:Tr V} {res:List Rs} {us us' : List Nat} (hz:tick=z) (h:us=us'):Jc bY res us=Jc bY res us':=by rw [h]
@[congr] theorem atU {z:Prop} {res:List Rs} {u u' : Nat} (hz:tick=z) (h:u=u'):fnd res u=fnd res u':=by rw [h]
@[congr] theorem aoY {z:Prop} {dU tm:Tr V} {os os' : List Nat} (hz:tick=z) (h:os=os'):FB dU tm os=FB dU tm os':=by rw [h]
@[congr] theorem arb {z:Prop} {g:Option (Nat×Bool)} {tm:Tr V} {A B:Prop} (hz:tick=z):BQ g tm A B=BQ g tm A B:=rfl
@[congr] theorem atV {z:Prop} {v v' : V} {b:Bool} {A B:Prop} (hz:tick=z) (h:v=v'):gsV v b A B=gsV v' b A B:=by rw [h]
@[congr] theorem au0 {z:Prop} {g:Option (Nat×Bool)} {dU bY:Tr V} {res:List Rs} {us os:List Nat} {σ:St} {pd:List iW} {i:Nat} {d:Option Nat} {op:vZ} {l:List DO} {K:St→List Rs→List iW→Prop} (hz:tick=z):qR g dU bY res us os σ pd i d op l K=qR g dU bY res us os σ pd i d op l K:=rfl
def al6(E:Env)(d:Option Nat)(g:Option (Nat×Bool))(op:vZ)(tm:Tr V)(σ:St)(K:V->St->Prop):wpG E ⟨d,g,op⟩ tm σ K=BQ g tm (wpOp E op tm σ K) (K .tnil σ):=rfl
def ard(x:O)(K:V->St->Prop):wpOp E (.mov x) tm σ K=Gq (some (x.ev tm)) λv=>K v σ:=rfl
def arf(b:AC):Uf E b Q .normal tm σ=bK E b tm σ Q:=rfl
def arh(b:AC)(i:Nat):Uf E b Q (.exit i) tm σ=Q (.exit i) tm σ:=rfl
def ari(b:AC):Uf E b Q .ret tm σ=Q .ret tm σ:=rfl
def arj(i:Nat):agA i Q .normal tm σ=Q .normal tm σ:=rfl
def ark(i j:Nat):agA i Q (.exit j) tm σ=Q (bif Nat.beq j i then .normal else .exit j) tm σ:=rfl
def arl(i:Nat):agA i Q .ret tm σ=Q .ret tm σ:=rfl
variable (I:Nat→Tr V→St→Prop) (m:Nat) (res:List (Nat×Option (Nat×Bool))) (K:V→St→Prop)
def arn:alm I m Q .normal tm σ=∃m',m'<m/\I m' tm σ:=rfl
def aro(i:Nat):alm I m Q (.exit i) tm σ=Q (.exit i) tm σ:=rfl
def arp:alm I m Q .ret tm σ=Q .ret tm σ:=rfl
def al7:ZR res K .normal tm σ=Gq (result tm σ res) λv=>K v σ:=by unfold ZR Gq;grind
def arq:ZR res K .ret tm σ=Gq (result tm σ res) λv=>K v σ:=by unfold ZR Gq;grind
end
def ars(p q:Rat):decide (oQ p q<0)=decide (p<q):=by
 by_cases h:p<q
 .rw[bh h,bh];exact qJ.mpr h
 .rw[az h,az];exact λe=>h (qJ.mp e)
def ahe(tm:Tr V)(d:Nat)(v:V):Tr.get (EU tm (some d) v) d=some v:=by grind[EU,Tr.uz]
def aru(tm:Tr V)(d j:Nat)(v:V)(h:j≠d):Tr.get (EU tm (some d) v) j=Tr.get tm j:=by grind[EU,Tr.uz]
def Z5(tm:Tr V)(σ:St):pK tm σ []=some .tnil:=rfl
def ahf(tm:Tr V)(σ:St)(t:Nat)(r:List (Nat×Option (Nat×Bool))):pK tm σ ((t,none)::r)=match tm.get t,pK tm σ r with|some v,some w=>some (.aV v w)|_,_=>none:=rfl
def ahg(tm:Tr V)(σ:St)(t n:Nat)(g:Bool)(r:List (Nat×Option (Nat×Bool))):pK tm σ ((t,some (n,g))::r)=match(match tm.ah t with|.c (.ptr b o)=>ld σ.h b o n g|_=>none),pK tm σ r with|some v,some w=>some (.aV v w)|_,_=>none:=rfl
def Fr.new1{σ:St}{h:Tr Bk}{n:Nat}{k:Bk}(hf:Fr σ ⟨h,n⟩):Fr σ ⟨hset h n k,n+1⟩:=Fr.new hf k
def Fr.set1{σ:St}{h:Tr Bk}{n b:Nat}{k:Bk}(hf:Fr σ ⟨h,n⟩)(h1:σ.aj<=b)(h2:b<n):Fr σ ⟨hset h b k,n⟩:=Fr.set hf h1 h2 k
def ak{h:Tr Bk}{b:Nat}{k:Bk}(e:h b=some k)(o n:Nat)(g:Bool):ld h b o n g=bif k.rd then zQ k.cells o n g else none:=by unfold ld;rw[e]
def aI{h:Tr Bk}{b:Nat}{k:Bk}(e:h b=some k)(o:Nat)(vs:List B):sto h b o vs=match bif k.pl then yH k.cells o vs else none with|some l=>some (hset h b ⟨l,k.opn⟩)|none=>none:=by grind[sto]
def plo(o:Option (Nat×Nat)):Bool:=match o with|some (0,_)=>false|_=>true
def Y4(o:Option (Nat×Nat)):Bool:=match o with|some (0,t)=>Nat.beq t 1|_=>true
def arv(k:Bk):k.pl=plo k.opn:=rfl
def NU(k:Bk):k.rd=Y4 k.opn:=rfl
def ahh:plo none=true:=rfl
def ahi:Y4 none=true:=rfl
def aoZ(e t:Nat)(h:e≠0):plo (some (e,t))=true:=by cases e with|zero=>omega|succ e=>rfl
def Df(e t:Nat)(h:e≠0):Y4 (some (e,t))=true:=by cases e with|zero=>omega|succ e=>rfl
def au1:Y4 (some (0,1))=true:=rfl
def ahj(k:IntKind)(n:Int):B.kn (.int k n)=true:=rfl
theorem AU(b:Bool):B.kn (.bool b)=true:=rfl
theorem FY(s:ByteArray):B.kn (.str s)=true:=rfl
def arw(b o:Nat):B.kn (.ptr b o)=true:=rfl
def al8:B.kn .TJ=true:=rfl
def au2(b o n:Nat)(c:Cap):B.kn (.sl b o n c)=true:=rfl
def al9:B.kn .aX=true:=rfl
def au3(b:Nat):B.kn (.mp b)=true:=rfl
def HL.kn{h:Tr Bk}{e:Nat}{v:B}{n:Nat}{G:Nat->List B}(hl:HL h e v n G):v.kn=true:=by rcases hl with⟨-,rfl⟩|⟨b,o,c,rfl,-⟩<;>rfl
def HC.kn{h:Tr Bk}{v:B}{n:Nat}{G:Nat->B}(hl:HC h v n G):v.kn=true:=by rcases hl with⟨-,rfl⟩|⟨b,o,c,rfl,-⟩<;>rfl
def au4(x:B)(l:List B)(o n:Nat):zQ (x::l) o n true=bif Nat.beq (((x::l).drop o).take n).length n&&(((x::l).drop o).take n).all B.kn then some (.agg (((x::l).drop o).take n))else none:=rfl
def au5(x:B)(l:List B)(o n:Nat):zQ (x::l) o n false=match(x::l).drop o with|x::_=>bif x.kn then some (.c x)else none|[]=>none:=rfl
def au6(x:B)(l vs:List B):yH (x::l) 0 vs=bif Nat.ble vs.length (x::l).length then some (vs++(x::l).drop vs.length)else none:=by rw[yH]
def au7(x:B)(l:List B)(o:Nat)(vs:List B):yH (x::l) (o+1) vs=match yH l o vs with|some r=>some (x::r)|none=>none:=by rfl
def ahk(a b:Nat):(Int.ofNat a=Int.ofNat b)=(a=b):=propext ⟨Int.ofNat.inj,λe=>by rw[e]⟩
def eq_neg(a b:Nat):(Int.ofNat a=Int.negSucc b)=False:=by simp
def au8[h:Decidable True]: @decide True h=true:=by simp
def au9[h:Decidable False]: @decide False h=false:=by simp
attribute [go_sem] aek al3 al4 aq5 aq6 ahc aec wpOps_cons agL aqu o_load alv alx aly aqv auG aqw aqx aqy aqz auH auI auJ auK auL auM auN aqA aqB auO aoU auP alz alA aqC auR auQ auS alB CP aqD ZB auT alu aeb aqE alC auU aqF J8 rep auV alD aqG axC axD ad1 alr ad2 ad3 ad4 ad5 ad6 ad7 ad8 ad9 V.cells als auF agK aqt aA axE axF cW eA Bool.and_true Bool.true_and List.drop_succ_cons ip gj cM ce List.length_nil Nat.reduceAdd cP cF abQ QY xH H7 au dE List.nil_append gS List.map_cons List.map_nil result agJ aG alK alL alG aqO alO alQ agV agX agZ aqQ aqS aqU ag1 ag3 aqW aqY alR ag5 alT aq0 ag7 alV alX aeg alH alI aqH agO aed agP alE agQ aee ZX agR aef agN alJ agS aqP alP agW agY ag0 aqR aqT aqV ag2 ag4 aqX aqZ alS ag6 alU aq1 ag8 alW alY Z4 W9 aei alM auW ZY aeh List.contains_cons List.contains_nil Nat.reduceBEq Bool.or_false Bool.or_true Bool.false_or Bool.true_or cD fT List.getD_cons_zero List.getD_cons_succ am and_true al6 aqI aqJ aqK aqL aqM aqN alF auX alN ard aq3 auY seq_eq ahb al0 al1 aq4 al2 ahd aej al5 arf arh ari arj ark arl arn aro arp al7 arq ars ahj AU FY arw al8 au2 al9 au3 au4 au5 au6 au7 ahk eq_neg au8 au9 arv NU ahh ahi aoZ Df au1 ahe aru Z5 ahf ahg auC ZU ZV agI adZ auD auE aqo agH auA aqn agF adW WV aql WT aqm WU adV auB alp abP aqp WX aqr aqs alq WW
end Go.Proofs.Xe
