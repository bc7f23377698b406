import Derived.Test.YtodnohicahohdaaGreatDoorYh10
import Derived.Attr
set_option linter.all false
namespace Go.Proofs.Xe
open Go.RowKit Go.Proofs.Ins
noncomputable def aci(tm:Tr V):List Nat->Tr V
 |[]=>tm
 |d::l=>(aci tm l).set d none
def KW(tm:Tr V):∀ds,CQ tm ds=some (aci tm ds)
 |[]=>rfl
 |d::l=>by unfold CQ;rw[KW tm l];rfl
theorem aei(tm:Tr V)(j:Nat):∀ds:List Nat,ds.contains j=false->(aci tm ds).get j=tm.get j
 |[],_=>rfl
 |d::l,h=>by rw[List.contains_cons,Bool.or_eq_false_iff]at h;show((aci tm l).set d none).get j=_;rw[Tr.wo,ae (by simpa using h.1),aei tm j l h.2]
def ajE(tm:Tr V)(ds:List Nat)(j:Nat)(h:ds.contains j=false):r8 (aci tm ds) j=r8 tm j:=by grind[r8,aei]
def fnd:List Rs->Nat->Option Rs
 |[],_=>none
 |r::l,u=>bif Nat.beq r.i u then some r else fnd l u
def Zf(u:Nat):∀l:List Rs,l.find? (λr=>Nat.beq r.i u)=fnd l u
 |[]=>rfl
 |r::l=>by rw[List.find?_cons,fnd,Zf u l];cases Nat.beq r.i u<;>rfl
noncomputable def tmO:Option (Tr V)->Option Rs->Option (Tr V)
 |some tm,some r=>some (G6 tm r.d r.v)
 |_,_=>none
def ajF(bU:Tr V)(res:List Rs):KJ bU res []=some bU:=rfl
def agN(bU:Tr V)(res:List Rs)(u:Nat)(us:List Nat):KJ bU res (u::us)=tmO (KJ bU res us) (fnd res u):=by
 rw[KJ,Zf];cases KJ bU res us with
 |none=>rfl
 |some tm=>
  cases fnd res u with
  |none=>rfl
  |some r=>show KI tm r.d r.v=_;rw[Oc];rfl
def ajG(tm:Tr V)(i:Nat)(d:Option Nat)(v:V):tmO (some tm) (some ⟨i,d,v⟩)=some (G6 tm d v):=rfl
def aoO(i:Nat)(d:Option Nat)(v:V)(l:List Rs):fnd (⟨i,d,v⟩::l) i=some ⟨i,d,v⟩:=by unfold fnd;simp
def ajH(i u:Nat)(d:Option Nat)(v:V)(l:List Rs)(h:i≠u):fnd (⟨i,d,v⟩::l) u=fnd l u:=by grind[fnd,Uu]
def agO(dw tm:Tr V):Hw dw tm []=some tm:=rfl
def acj(dw tm:Tr V)(t:Nat)(l:List Nat):Hw dw tm (t::l)=match Hw dw tm l with|some tm=>some (G6 tm (some t) (r8 dw t))|none=>none:=by rfl
def auj(dw bU:Tr V)(res:List Rs)(us os:List Nat):PE dw bU res us os=match KJ bU res us with|some tm=>Hw dw tm os|none=>none:=rfl
def ajI(bU:Tr V):Nv bU []=some bU:=rfl
def agP(bU:Tr V)(i:Nat)(d:Option Nat)(v:V)(l:List Rs):Nv bU (⟨i,d,v⟩::l)=match Nv bU l with|some tm=>some (G6 tm d v)|none=>none:=by grind[Nv,Oc]
def DU(g:Option (Nat×Bool))(tm:Tr V)(A B:Prop):Prop:=match gate g tm with|some true=>A|some false=>B|none=>False
def gsV(v:V)(b:Bool)(A B:Prop):Prop:=match v with|.c (.bool c)=>(bif c==b then A else B)|.tnil=>B|_=>False
def auk(tm:Tr V)(A B:Prop):DU none tm A B=A:=rfl
def aul(t:Nat)(b:Bool)(tm:Tr V)(A B:Prop):DU (some (t,b)) tm A B=gsV (r8 tm t) b A B:=by grind[DU,gsV,gate]
def aum(A B:Prop):gsV (.c (.bool true)) true A B=A:=rfl
def aun(A B:Prop):gsV (.c (.bool true)) false A B=B:=rfl
def auo(A B:Prop):gsV (.c (.bool false)) true A B=B:=rfl
def aup(A B:Prop):gsV (.c (.bool false)) false A B=A:=rfl
def aoP(b:Bool)(A B:Prop):gsV .tnil b A B=B:=rfl
def Af{p:Prop}[Decidable p]{A B:Prop}(h1:p->A)(h2:¬p->B):gsV (.c (.bool (decide p))) true A B:=by
 by_cases h:p
 .rw[aw h];exact h1 h
 .rw[ap h];exact h2 h
def Zg{p:Prop}[Decidable p]{A B:Prop}(h1:p->B)(h2:¬p->A):gsV (.c (.bool (decide p))) false A B:=by
 by_cases h:p
 .rw[aw h];exact h1 h
 .rw[ap h];exact h2 h
def wU(dw bU:Tr V)(qs:List DO)(J:St)(res:List Rs)(pd:List jf)(K:St->List Rs->List jf->Prop):Prop:=
 match zV dw bU qs J res pd with
 |some (J,res,pd)=>K J res pd
 |none=>False
def aoQ(dw bU:Tr V)(J:St)(res:List Rs)(pd:List jf)(K:St->List Rs->List jf->Prop):wU dw bU [] J res pd K=K J res pd:=rfl
section
variable (E:Env) (pt:List (List Nat)) (dw bU:Tr V) (J:St) (res:List Rs) (pd:List jf)
def qp(i:Nat)(us os:List Nat)(d:Option Nat)(g:Option (Nat×Bool))(op:xq)(l:List DO)(K:St->List Rs->List jf->Prop)(h:op.kind=.q):
  wU dw bU (⟨i,us,os,⟨d,g,op⟩⟩::l) J res pd K=match PE dw bU res us os with
   |some tm=>DU g tm (wpOp E op tm J λv _=>wU dw bU l J (⟨i,d,v⟩::res) (⟨i,⟨d,g,op⟩,tm,v,true,none⟩::pd) K) (wU dw bU l J (⟨i,d,.tnil⟩::res) (⟨i,⟨d,g,op⟩,tm,.tnil,false,none⟩::pd) K)
   |none=>False:=by
 unfold wU DU
 rw[zV]
 dsimp only
 cases PE dw bU res us os with
 |none=>rfl
 |some tm=>
  dsimp only
  have hc:∀g l,op≠.call g l:=λg l e=>by rw[e]at h;cases h
  grind[fP,D9]
def agQ(i:Nat)(us os:List Nat)(d:Option Nat)(g:Option (Nat×Bool))(z:List B)(l:List DO)(K:St->List Rs->List jf->Prop):
  wU dw bU (⟨i,us,os,⟨d,g,.alloc z⟩⟩::l) J res pd K=match PE dw bU res us os with
   |some tm=>DU g tm (wU dw bU l ⟨hset J.h J.aj ⟨z,none⟩,J.aj+1⟩ (⟨i,d,.c (.ptr J.aj 0)⟩::res) (⟨i,⟨d,g,.alloc z⟩,tm,.c (.ptr J.aj 0),true,some J.aj⟩::pd) K)
    (wU dw bU l J (⟨i,d,.tnil⟩::res) (⟨i,⟨d,g,.alloc z⟩,tm,.tnil,false,none⟩::pd) K)
   |none=>False:=by
 unfold wU DU
 rw[zV]
 dsimp only
 cases PE dw bU res us os with
 |none=>rfl
 |some tm=>
  grind[xq.kind,oO,lZ]
def aoR(i:Nat)(us os:List Nat)(d:Option Nat)(g:Option (Nat×Bool))(x:O)(l:List DO)(K:St->List Rs->List jf->Prop):
  wU dw bU (⟨i,us,os,⟨d,g,.box x⟩⟩::l) J res pd K=match PE dw bU res us os with
   |some tm=>DU g tm (match(x.ev tm).cells with
    |some z=>wU dw bU l ⟨hset J.h J.aj ⟨z,none⟩,J.aj+1⟩ (⟨i,d,.c (.ptr J.aj 0)⟩::res) (⟨i,⟨d,g,.box x⟩,tm,.c (.ptr J.aj 0),true,some J.aj⟩::pd) K
    |none=>False) (wU dw bU l J (⟨i,d,.tnil⟩::res) (⟨i,⟨d,g,.box x⟩,tm,.tnil,false,none⟩::pd) K)
   |none=>False:=by
 unfold wU DU
 rw[zV]
 dsimp only
 cases PE dw bU res us os with
 |none=>rfl
 |some tm=>
  grind[xq.kind,oO,lZ]
def aoS(i:Nat)(us os:List Nat)(d:Option Nat)(g:Option (Nat×Bool))(e n:Nat)(z:List B)(ps:List (Nat×Nat×O))(l:List DO)(K:St->List Rs->List jf->Prop)(hn:n*e<=16777216)(hn2:n<=16777216):
  wU dw bU (⟨i,us,os,⟨d,g,.bsl e n z ps⟩⟩::l) J res pd K=match PE dw bU res us os with
   |some tm=>DU g tm (match Em (rep z n) (ps.map λp=>(p.1,p.2.1,p.2.2.ev tm))with
    |some c=>wU dw bU l ⟨hset J.h J.aj ⟨c,none⟩,J.aj+1⟩ (⟨i,d,.c (.sl J.aj 0 n (.ex n))⟩::res) (⟨i,⟨d,g,.bsl e n z ps⟩,tm,.c (.sl J.aj 0 n (.ex n)),true,some J.aj⟩::pd) K
    |none=>False) (wU dw bU l J (⟨i,d,.tnil⟩::res) (⟨i,⟨d,g,.bsl e n z ps⟩,tm,.tnil,false,none⟩::pd) K)
   |none=>False:=by
 unfold wU DU
 rw[zV]
 dsimp only
 cases PE dw bU res us os with
 |none=>rfl
 |some tm=>
  grind[xq.kind,oO,nV,lZ]
def agn(J:St):List jf->Prop
 |[]=>True
 |p::l=>again J p=true/\agn J l
theorem WB(J:St):∀l:List jf,(l.all (again J)=true)=agn J l
 |[]=>by simp[agn]
 |p::l=>by rw[cw,af,WB J l];rfl
def aoT(J:St):agn J []=True:=rfl
def ajJ(J:St)(p:jf)(l:List jf):agn J (p::l)=(again J p=true/\agn J l):=rfl
def agR(l:List Nat):List jf->List jf
 |[]=>[]
 |p::pd=>bif l.contains p.i then agR l pd else p::agR l pd
theorem ajK(l:List Nat):∀pd:List jf,pd.filter (λp=>!(l.contains p.i))=agR l pd
 |[]=>rfl
 |p::pd=>by rw[List.filter_cons,agR,ajK l pd];cases l.contains p.i<;>rfl
theorem aoU (qs:List DO) (Q:Tr V→St→Prop):Y3 E pt dw bU (.fin qs) J res pd Q=wU dw bU qs J res pd fun J res pd=>agn J pd∧(match Nv bU res with|some tm=>Q tm J|none=>False):=by
 grind[Y3,wU,WB]
theorem aoV (qs:List DO) (i:Nat) (us os:List Nat) (d:Option Nat) (g:Option (Nat×Bool)) (op:xq) (r:Dr) (Q:Tr V→St→Prop) :
  Y3 E pt dw bU (.act qs ⟨i,us,os,⟨d,g,op⟩⟩ r) J res pd Q=wU dw bU qs J res pd fun J res pd=>agn J pd∧(match PE dw bU res us os with
   | some tm=>wpG E ⟨d,g,op⟩ tm J fun v J'=>Y3 E pt dw bU r J' (⟨i,d,v⟩::res) (agR (pt.getD i []) pd) Q
   | none=>False):=by
 grind[Y3,wU,WB,ajK]
def ajL(b:B):agc b b=b.kn:=by
 cases b<;>simp[agc,B.kn]
 case int k n=>cases n<;>simp[eqI]
 case sl b o n c=>cases c<;>simp[eqC]
def acn:∀l:List B,PD l l=l.all B.kn
 |[]=>rfl
 |b::l=>by rw[cw];unfold PD;rw[ajL b,acn l]
def aoW(l:List B):eqV (.agg l) (.agg l)=l.all B.kn:=acn l
def ayJ(b:B):eqV (.c b) (.c b)=b.kn:=ajL b
def jl(i:Nat)(d:Option Nat)(g9:Option (Nat×Bool))(op:xq)(tm:Tr V)(v:V)(h:op.kind=.q)(h2:op.looks=false):again J ⟨i,⟨d,g9,op⟩,tm,v,true,none⟩=true:=by grind[again]
def aco(i:Nat)(d:Option Nat)(g9:Option (Nat×Bool))(n:Nat)(g:Bool)(x:O)(tm:Tr V)(v:V):again J ⟨i,⟨d,g9,.load n g x⟩,tm,v,true,none⟩=match(match x.ev tm with|.c (.ptr b o)=>ld J.h b o n g|_=>none)with|some u=>eqV u v|none=>false:=by rfl
def Zh(i:Nat)(d:Option Nat)(g9:Option (Nat×Bool))(z:List B)(tm:Tr V)(v:V)(b:Nat):again J ⟨i,⟨d,g9,.alloc z⟩,tm,v,true,some b⟩=match J.h b with|some ⟨c,none⟩=>PD c z|_=>false:=by rfl
def agS(i:Nat)(d:Option Nat)(g9:Option (Nat×Bool))(e n:Nat)(z:List B)(ps:List (Nat×Nat×O))(tm:Tr V)(v:V)(b:Nat)(hn:n*e<=16777216)(hn2:n<=16777216):again J ⟨i,⟨d,g9,.bsl e n z ps⟩,tm,v,true,some b⟩=match Em (rep z n) (ps.map λp=>(p.1,p.2.1,p.2.2.ev tm))with|some z=>(match J.h b with|some ⟨c,none⟩=>PD c z|_=>false)|none=>false:=by grind[again,xq.kind,oO,nV]
end
def aoX(J:St)(i:Nat)(o:AO)(tm:Tr V)(v:V)(nm:Option Nat):again J ⟨i,o,tm,v,false,nm⟩=true:=rfl
section
def E0:Env:=⟨λ_=>none,λ_ _ _=>none⟩
variable (dw bU tm:Tr V) (J:St) (res:List Rs) (pd:List jf) (i:Nat) (us os:List Nat) (d:Option Nat) (g9:Option (Nat×Bool)) (l:List DO) (K:St→List Rs→List jf→Prop) (v:V)
def qR(g:Option (Nat×Bool))(dw bU:Tr V)(res:List Rs)(us os:List Nat)(J:St)(pd:List jf)(i:Nat)(d:Option Nat)(op:xq)(l:List DO)(K:St->List Rs->List jf->Prop):Prop:=match PE dw bU res us os with
 |some tm=>DU g tm (wpOp E0 op tm J λv _=>wU dw bU l J (⟨i,d,v⟩::res) (⟨i,⟨d,g,op⟩,tm,v,true,none⟩::pd) K) (wU dw bU l J (⟨i,d,.tnil⟩::res) (⟨i,⟨d,g,op⟩,tm,.tnil,false,none⟩::pd) K)
 |none=>False
def ayK(g:Option (Nat×Bool))(dw bU:Tr V)(res:List Rs)(us os:List Nat)(J:St)(pd:List jf)(i:Nat)(d:Option Nat)(op:xq)(l:List DO)(K:St->List Rs->List jf->Prop):qR g dw bU res us os J pd i d op l K=match PE dw bU res us os with
 |some tm=>DU g tm (wpOp E0 op tm J λv _=>wU dw bU l J (⟨i,d,v⟩::res) (⟨i,⟨d,g,op⟩,tm,v,true,none⟩::pd) K) (wU dw bU l J (⟨i,d,.tnil⟩::res) (⟨i,⟨d,g,op⟩,tm,.tnil,false,none⟩::pd) K)
 |none=>False:=rfl
def auq(x:O):wU dw bU (⟨i,us,os,⟨d,g9,.MH x⟩⟩::l) J res pd K=qR g9 dw bU res us os J pd i d (.MH x) l K:=qp E0 _ _ _ _ _ _ _ _ _ _ _ _ _ rfl
def aur(x:O):again J ⟨i,⟨d,g9,.MH x⟩,tm,v,true,none⟩=true:=jl _ _ _ _ _ _ _ rfl rfl
def aoY(c a b:O):wU dw bU (⟨i,us,os,⟨d,g9,.pick c a b⟩⟩::l) J res pd K=qR g9 dw bU res us os J pd i d (.pick c a b) l K:=qp E0 _ _ _ _ _ _ _ _ _ _ _ _ _ rfl
def aoZ(c a b:O):again J ⟨i,⟨d,g9,.pick c a b⟩,tm,v,true,none⟩=true:=jl _ _ _ _ _ _ _ rfl rfl
def ao0(n:Nat)(g:Bool)(x:O):wU dw bU (⟨i,us,os,⟨d,g9,.load n g x⟩⟩::l) J res pd K=qR g9 dw bU res us os J pd i d (.load n g x) l K:=qp E0 _ _ _ _ _ _ _ _ _ _ _ _ _ rfl
def ajM(n:Nat)(x:O):wU dw bU (⟨i,us,os,⟨d,g9,.Ei n x⟩⟩::l) J res pd K=qR g9 dw bU res us os J pd i d (.Ei n x) l K:=qp E0 _ _ _ _ _ _ _ _ _ _ _ _ _ rfl
def ajN(n:Nat)(x:O):again J ⟨i,⟨d,g9,.Ei n x⟩,tm,v,true,none⟩=true:=jl _ _ _ _ _ _ _ rfl rfl
def ajO(o n:Nat)(g:Bool)(x:O):wU dw bU (⟨i,us,os,⟨d,g9,.field o n g x⟩⟩::l) J res pd K=qR g9 dw bU res us os J pd i d (.field o n g x) l K:=qp E0 _ _ _ _ _ _ _ _ _ _ _ _ _ rfl
def ajP(o n:Nat)(g:Bool)(x:O):again J ⟨i,⟨d,g9,.field o n g x⟩,tm,v,true,none⟩=true:=jl _ _ _ _ _ _ _ rfl rfl
def ajQ(e:Nat)(x j:O):wU dw bU (⟨i,us,os,⟨d,g9,.Ej e x j⟩⟩::l) J res pd K=qR g9 dw bU res us os J pd i d (.Ej e x j) l K:=qp E0 _ _ _ _ _ _ _ _ _ _ _ _ _ rfl
def ajR(e:Nat)(x j:O):again J ⟨i,⟨d,g9,.Ej e x j⟩,tm,v,true,none⟩=true:=jl _ _ _ _ _ _ _ rfl rfl
def aus(n:Nat)(x:O):wU dw bU (⟨i,us,os,⟨d,g9,.ext n x⟩⟩::l) J res pd K=qR g9 dw bU res us os J pd i d (.ext n x) l K:=qp E0 _ _ _ _ _ _ _ _ _ _ _ _ _ rfl
def aut(n:Nat)(x:O):again J ⟨i,⟨d,g9,.ext n x⟩,tm,v,true,none⟩=true:=jl _ _ _ _ _ _ _ rfl rfl
def auu(b:BinOp)(x y:O):wU dw bU (⟨i,us,os,⟨d,g9,.bin b x y⟩⟩::l) J res pd K=qR g9 dw bU res us os J pd i d (.bin b x y) l K:=qp E0 _ _ _ _ _ _ _ _ _ _ _ _ _ rfl
def auv(b:BinOp)(x y:O):again J ⟨i,⟨d,g9,.bin b x y⟩,tm,v,true,none⟩=true:=jl _ _ _ _ _ _ _ rfl rfl
def auw(p:Bool)(x y:O):wU dw bU (⟨i,us,os,⟨d,g9,.eqb p x y⟩⟩::l) J res pd K=qR g9 dw bU res us os J pd i d (.eqb p x y) l K:=qp E0 _ _ _ _ _ _ _ _ _ _ _ _ _ rfl
def auy(p:Bool)(x y:O):again J ⟨i,⟨d,g9,.eqb p x y⟩,tm,v,true,none⟩=true:=jl _ _ _ _ _ _ _ rfl rfl
def ajS(p:Bool)(x y:O):wU dw bU (⟨i,us,os,⟨d,g9,.Hu p x y⟩⟩::l) J res pd K=qR g9 dw bU res us os J pd i d (.Hu p x y) l K:=qp E0 _ _ _ _ _ _ _ _ _ _ _ _ _ rfl
def ajT(p:Bool)(x y:O):again J ⟨i,⟨d,g9,.Hu p x y⟩,tm,v,true,none⟩=true:=jl _ _ _ _ _ _ _ rfl rfl
def ajU(p:Bool)(x y:O):wU dw bU (⟨i,us,os,⟨d,g9,.Jg p x y⟩⟩::l) J res pd K=qR g9 dw bU res us os J pd i d (.Jg p x y) l K:=qp E0 _ _ _ _ _ _ _ _ _ _ _ _ _ rfl
def ajV(p:Bool)(x y:O):again J ⟨i,⟨d,g9,.Jg p x y⟩,tm,v,true,none⟩=true:=jl _ _ _ _ _ _ _ rfl rfl
def auz(k:Nat)(p:Bool)(x:O):wU dw bU (⟨i,us,os,⟨d,g9,.nil k p x⟩⟩::l) J res pd K=qR g9 dw bU res us os J pd i d (.nil k p x) l K:=qp E0 _ _ _ _ _ _ _ _ _ _ _ _ _ rfl
def auA(k:Nat)(p:Bool)(x:O):again J ⟨i,⟨d,g9,.nil k p x⟩,tm,v,true,none⟩=true:=jl _ _ _ _ _ _ _ rfl rfl
def auB(x:O):wU dw bU (⟨i,us,os,⟨d,g9,.not x⟩⟩::l) J res pd K=qR g9 dw bU res us os J pd i d (.not x) l K:=qp E0 _ _ _ _ _ _ _ _ _ _ _ _ _ rfl
def auC(x:O):again J ⟨i,⟨d,g9,.not x⟩,tm,v,true,none⟩=true:=jl _ _ _ _ _ _ _ rfl rfl
def ao1(k:IntKind)(x:O):wU dw bU (⟨i,us,os,⟨d,g9,.conv k x⟩⟩::l) J res pd K=qR g9 dw bU res us os J pd i d (.conv k x) l K:=qp E0 _ _ _ _ _ _ _ _ _ _ _ _ _ rfl
def ao2(k:IntKind)(x:O):again J ⟨i,⟨d,g9,.conv k x⟩,tm,v,true,none⟩=true:=jl _ _ _ _ _ _ _ rfl rfl
def ajW(z:List B)(ps:List (Nat×Nat×O)):wU dw bU (⟨i,us,os,⟨d,g9,.build z ps⟩⟩::l) J res pd K=qR g9 dw bU res us os J pd i d (.build z ps) l K:=qp E0 _ _ _ _ _ _ _ _ _ _ _ _ _ rfl
def ajX(z:List B)(ps:List (Nat×Nat×O)):again J ⟨i,⟨d,g9,.build z ps⟩,tm,v,true,none⟩=true:=jl _ _ _ _ _ _ _ rfl rfl
def ao3(f:Nat)(cs:List O):wU dw bU (⟨i,us,os,⟨d,g9,.Tq f cs⟩⟩::l) J res pd K=qR g9 dw bU res us os J pd i d (.Tq f cs) l K:=qp E0 _ _ _ _ _ _ _ _ _ _ _ _ _ rfl
def ao4(f:Nat)(cs:List O):again J ⟨i,⟨d,g9,.Tq f cs⟩,tm,v,true,none⟩=true:=jl _ _ _ _ _ _ _ rfl rfl
def auD(x:O):wU dw bU (⟨i,us,os,⟨d,g9,.len x⟩⟩::l) J res pd K=qR g9 dw bU res us os J pd i d (.len x) l K:=qp E0 _ _ _ _ _ _ _ _ _ _ _ _ _ rfl
def auE(x:O):again J ⟨i,⟨d,g9,.len x⟩,tm,v,true,none⟩=true:=jl _ _ _ _ _ _ _ rfl rfl
def ajY(e:Nat)(x:O)(lo hi mx:Option O):wU dw bU (⟨i,us,os,⟨d,g9,.slice e x lo hi mx⟩⟩::l) J res pd K=qR g9 dw bU res us os J pd i d (.slice e x lo hi mx) l K:=qp E0 _ _ _ _ _ _ _ _ _ _ _ _ _ rfl
def ajZ(e:Nat)(x:O)(lo hi mx:Option O):again J ⟨i,⟨d,g9,.slice e x lo hi mx⟩,tm,v,true,none⟩=true:=jl _ _ _ _ _ _ _ rfl rfl
def ao5(x:O):wU dw bU (⟨i,us,os,⟨d,g9,.Tv x⟩⟩::l) J res pd K=qR g9 dw bU res us os J pd i d (.Tv x) l K:=qp E0 _ _ _ _ _ _ _ _ _ _ _ _ _ rfl
def ao6(x:O):again J ⟨i,⟨d,g9,.Tv x⟩,tm,v,true,none⟩=true:=jl _ _ _ _ _ _ _ rfl rfl
def ao7(x y:O):wU dw bU (⟨i,us,os,⟨d,g9,.min2 x y⟩⟩::l) J res pd K=qR g9 dw bU res us os J pd i d (.min2 x y) l K:=qp E0 _ _ _ _ _ _ _ _ _ _ _ _ _ rfl
def ao8(x y:O):again J ⟨i,⟨d,g9,.min2 x y⟩,tm,v,true,none⟩=true:=jl _ _ _ _ _ _ _ rfl rfl
end
def auF{E:Env}{tm:Tr V}{J:St}{Q:AX->Tr V->St->Prop}{d:Dr}{pt:List (List Nat)}{ds:List Nat}(h:Y3 E pt tm (aci tm ds) d J [] [] λtm' J'=>Q .normal tm' J'):bI E (.drawn d pt ds) tm J Q:=
 agx _ (KW tm ds) h
section
variable {E:Env}
theorem ao9{n:Nat}{op:xq}{tm:Tr V}{J J':St}{v:V}{K:V->St->Prop}(h:oK (iD E n) op tm J=some (v,J'))(hk:K v J'):wpOp E op tm J K:=by
 unfold wpOp;split
 .next g args=>
  unfold oK at h;simp only[xq.kind]at h;split at h
  .next f a e=>
   unfold Pz at e;cases hg:g.ev tm with
   |fn f' caps=>
    dsimp only at e
    rw[hg]at e
    obtain⟨rfl,rfl⟩:=Prod.mk.inj (eI e)
    exact⟨n,v,J',h,hk⟩
   |_=>grind
  .cases h
 .next hne=>
  have e:oK (λ_ _ _=>none) op tm J=oK (iD E n) op tm J:=by
   unfold oK;cases hk2:op.kind with
   |c=>cases op<;>simp only[xq.kind,reduceCtorEq]at hk2;grind
   |_=>rfl
  grind
def aj0{n:Nat}{o:AO}{tm:Tr V}{J J':St}{v:V}{K:V->St->Prop}(h:stepG (iD E n) o tm J=some (v,J'))(hk:K v J'):wpG E o tm J K:=by grind[wpG,stepG,ao9]
theorem Zi{n:Nat}:∀{l:List AO}{tm tm':Tr V}{J J':St}{Q:Tr V->St->Prop},oP (iD E n) l tm J=some (tm',J')->Q tm' J'->wpOps E l tm J Q
 |[],_,_,_,_,_,h,hq=>by cases h;exact hq
 |o::l,tm,tm',J,J',Q,h,hq=>by
  unfold oP at h;split at h
  .next v σ1 e=>
   rw[Oc]at h;exact aj0 e (Zi h hq)
  .cases h
theorem aj1{n:Nat}{pt:List (List Nat)}{dw bU:Tr V}:∀{d:Dr}{J J':St}{res:List Rs}{pd:List jf}{tm':Tr V}{Q:Tr V->St->Prop},Bz (iD E n) pt dw bU d J res pd=some (tm',J')->Q tm' J'->Y3 E pt dw bU d J res pd Q
 |.fin qs,J,J',res,pd,tm',Q,h,hq=>by grind[Go.Proofs.Xe.Bz,Go.Proofs.Xe.Y3]
 |.act qs x r,J,J',res,pd,tm',Q,h,hq=>by
  unfold Bz at h;unfold Y3;split at h
  .next σ1 res1 pd1 e=>
   rw[e];dsimp only;cases hb:pd1.all (again σ1)with
   |false=>rw[hb]at h;cases h
   |true=>
    rw[hb]at h
    simp only[bB]at h
    refine⟨rfl,?_⟩
    split at h
    .next YV e2=>
     rw[e2]
     dsimp only
     split at h
     .next v σ2 e3=>exact aj0 e3 (aj1 h hq)
     .cases h
    .cases h
  .cases h
end
section
variable (E:Env) (tm:Tr V) (J:St) (Q:AX→Tr V→St→Prop)
def auG(l:List AO):bI E (.ops l) tm J Q=wpOps E l tm J λtm' J'=>Q .normal tm' J':=by
 refine propext ⟨?_,aoz⟩;rintro⟨n,e,tm',J',h,hq⟩;cases n with
 |zero=>grind[exec]
 |succ n=>
  simp only[exec,YH]at h
  grind[Zi]
def ayL(d:Dr)(pt:List (List Nat))(ds:List Nat):bI E (.drawn d pt ds) tm J Q=Y3 E pt tm (aci tm ds) d J [] [] λtm' J'=>Q .normal tm' J':=by
 refine propext ⟨?_,auF⟩;rintro⟨n,e,tm',J',h,hq⟩;cases n with
 |zero=>grind[exec]
 |succ n=>
  simp only[exec,xDr,YH,KW]at h
  grind[aj1]
def seq_eq(a b:AC):bI E (.seq a b) tm J Q=bI E a tm J (Wx E b Q):=by
 refine propext ⟨?_,run_seq⟩;rintro⟨n,e,tm',J',h,hq⟩;cases n with
 |zero=>grind[exec]
 |succ n=>
  rw[exec]at h
  cases hx:exec E n a tm J with
  |none=>rw[hx]at h;cases h
  |some q=>
   rw[hx]at h
   obtain⟨e1,KQ,σ1⟩:=q
   refine⟨n,e1,KQ,σ1,hx,?_⟩
   cases e1 with
   |normal=>exact⟨n,e,tm',J',h,hq⟩
   |exit i=>cases h;exact hq
   |ret=>cases h;exact hq
def aj2(i:Nat)(a:AC):bI E (.block i a) tm J Q=bI E a tm J (ajq i Q):=by
 refine propext ⟨?_,Gf⟩;rintro⟨n,e,tm',J',h,hq⟩;cases n with
 |zero=>grind[exec]
 |succ n=>
  rw[exec]at h
  cases hx:exec E n a tm J with
  |none=>rw[hx]at h;cases h
  |some q=>
   rw[hx]at h
   obtain⟨e1,KQ,σ1⟩:=q
   refine⟨n,e1,KQ,σ1,hx,?_⟩
   cases e1 with
   |normal=>cases h;exact hq
   |exit j=>cases h;exact hq
   |ret=>cases h;exact hq
def apa:bI E .skip tm J Q=Q .normal tm J:=by
 refine propext ⟨?_,Y1⟩;rintro⟨n,e,tm',J',h,hq⟩;cases n with
 |zero=>grind[exec]
 |succ n=>grind[exec]
def apb(i:Nat):bI E (.exit i) tm J Q=Q (.exit i) tm J:=by
 refine propext ⟨?_,ajo⟩;rintro⟨n,e,tm',J',h,hq⟩;cases n with
 |zero=>grind[exec]
 |succ n=>grind[exec]
def auH:bI E .ret tm J Q=Q .ret tm J:=by
 refine propext ⟨?_,aoy⟩;rintro⟨n,e,tm',J',h,hq⟩;cases n with
 |zero=>grind[exec]
 |succ n=>grind[exec]
def ifV(v:V)(P:Bool->Prop):Prop:=match v with|.c (.bool t)=>P t|_=>False
def apc(x:O)(a b:AC):bI E (.cond x a b) tm J Q=ifV (x.ev tm) λt=>bI E (bif t then a else b) tm J Q:=by
 refine propext ⟨?_,λh=>?_⟩
 .rintro⟨n,e,tm',J',h,hq⟩;cases n with
  |zero=>grind[exec]
  |succ n=>
   simp only[exec,YI]at h
   split at h
   .next t e=>rw[e];exact⟨n,_,_,_,h,hq⟩
   .cases h
 .unfold ifV at h;grind[ajp]
def auI(a b:AC):bI E (bif true then a else b) tm J Q=bI E a tm J Q:=rfl
def auJ(a b:AC):bI E (bif false then a else b) tm J Q=bI E b tm J Q:=rfl
def ape(a b:AC):bI E (bif !true then a else b) tm J Q=bI E b tm J Q:=rfl
def apf(a b:AC):bI E (bif !false then a else b) tm J Q=bI E a tm J Q:=rfl
def aj3(n:Nat)(b:AC)(r:List (Nat×Option (Nat×Bool))):bI E (AF.body ⟨n,b,r⟩) tm J Q=bI E b tm J Q:=rfl
def aj6(P:Bool->Prop):ifV (.c (.bool true)) P=P true:=rfl
def agT(P:Bool->Prop):ifV (.c (.bool false)) P=P false:=rfl
def apg(b:Bool)(P:Bool->Prop):ifV (.c (.bool (!b))) P=ifV (.c (.bool b)) λt=>P (!t):=rfl
def aH{p:Prop}[Decidable p]{P:Bool->Prop}(h1:p->P true)(h2:¬p->P false):ifV (.c (.bool (decide p))) P:=by
 show P (decide p);by_cases h:p
 .grind
 grind
def ayM{b:Bool}{P:Bool->Prop}(h1:b=true->P true)(h2:b=false->P false):ifV (.c (.bool b)) P:=by
 show P b;cases b with
 |true=>grind
 |false=>grind
def tick:Prop:=∀n:Nat,n=n
def agU:tick=True:=propext ⟨λ_=>trivial,λ_ _=>rfl⟩
@[congr] theorem axB {z:Prop} {v v' : V} {P:Bool→Prop} (hz:tick=z) (h:v=v'):ifV v P=ifV v' P:=by rw [h]
@[congr] theorem axC {z:Prop} {v v' : Option V} {P:V→Prop} (hz:tick=z) (h:v=v'):D9 v P=D9 v' P:=by rw [h]
@[congr] theorem auK {z:Prop} {c:AC} {tm tm' : Tr V} {J J' : St} {Q:AX→Tr V→St→Prop} (hz:tick=z) (h:tm=tm') (h2:J=J'):bI E c tm J Q=bI E c tm' J' Q:=by rw [h,h2]
@[congr] theorem asB {z:Prop} {c:List AO} {tm tm' : Tr V} {J J' : St} {Q:Tr V→St→Prop} (hz:tick=z) (h:tm=tm') (h2:J=J'):wpOps E c tm J Q=wpOps E c tm' J' Q:=by rw [h,h2]
@[congr] theorem axD {z:Prop} {c:AO} {tm tm' : Tr V} {J J' : St} {Q:V→St→Prop} (hz:tick=z) (h:tm=tm') (h2:J=J'):wpG E c tm J Q=wpG E c tm' J' Q:=by rw [h,h2]
@[congr] theorem auL {z:Prop} {c:xq} {tm tm' : Tr V} {J J' : St} {Q:V→St→Prop} (hz:tick=z) (h:tm=tm') (h2:J=J'):wpOp E c tm J Q=wpOp E c tm' J' Q:=by rw [h,h2]
@[congr] theorem asC {z:Prop} {f:Nat} {a a' : List V} {J J' : St} {Q:V→St→Prop} (hz:tick=z) (h:a=a') (h2:J=J'):aB E f a J Q=aB E f a' J' Q:=by rw [h,h2]
@[congr] theorem axE {z:Prop} {dw bU:Tr V} {qs:List DO} {J J' : St} {res res' : List Rs} {pd pd' : List jf} {K:St→List Rs→List jf→Prop} (hz:tick=z) (h2:J=J') (h3:res=res') (h4:pd=pd'):wU dw bU qs J res pd K=wU dw bU qs J' res' pd' K:=by grind
@[congr] theorem axF {z:Prop} {pt:List (List Nat)} {dw bU:Tr V} {d:Dr} {J J' : St} {res res' : List Rs} {pd pd' : List jf} {K:Tr V→St→Prop} (hz:tick=z) (h2:J=J') (h3:res=res') (h4:pd=pd'):Y3 E pt dw bU d J res pd K=Y3 E pt dw bU d J' res' pd' K:=by grind
@[congr] theorem axG {z:Prop} {J J' : St} {pd pd' : List jf} (hz:tick=z) (h:J=J') (h2:pd=pd'):agn J pd=agn J' pd':=by rw [h,h2]
@[congr] theorem auM {z:Prop} {i i' : Nat} {o:AO} {tm:Tr V} {v:V} {g:Bool} {nm:Option Nat} (hz:tick=z) (h:i=i'):jf.mk i o tm v g nm=jf.mk i' o tm v g nm:=by rw [h]
@[congr] theorem asD {z:Prop} {J J' : St} {p:jf} (hz:tick=z) (h:J=J'):again J p=again J' p:=by rw [h]
@[congr] theorem axH {z:Prop} {dw bU:Tr V} {res:List Rs} {us us' os:List Nat} (hz:tick=z) (h:us=us'):PE dw bU res us os=PE dw bU res us' os:=by rw [h]
@[congr] theorem auN {z:Prop} {bU:Tr V} {res:List Rs} {us us' : List Nat} (hz:tick=z) (h:us=us'):KJ bU res us=KJ bU res us':=by rw [h]
@[congr] theorem axI {z:Prop} {res:List Rs} {u u' : Nat} (hz:tick=z) (h:u=u'):fnd res u=fnd res u':=by rw [h]
@[congr] theorem asE {z:Prop} {dw tm:Tr V} {os os' : List Nat} (hz:tick=z) (h:os=os'):Hw dw tm os=Hw dw tm os':=by rw [h]
@[congr] theorem auO {z:Prop} {g:Option (Nat×Bool)} {tm:Tr V} {A B:Prop} (hz:tick=z):DU g tm A B=DU g tm A B:=rfl
@[congr] theorem axJ {z:Prop} {v v' : V} {b:Bool} {A B:Prop} (hz:tick=z) (h:v=v'):gsV v b A B=gsV v' b A B:=by rw [h]
@[congr] theorem ayN {z:Prop} {g:Option (Nat×Bool)} {dw bU:Tr V} {res:List Rs} {us os:List Nat} {J:St} {pd:List jf} {i:Nat} {d:Option Nat} {op:xq} {l:List DO} {K:St→List Rs→List jf→Prop} (hz:tick=z):qR g dw bU res us os J pd i d op l K=qR g dw bU res us os J pd i d op l K:=rfl
def aph(E:Env)(d:Option Nat)(g:Option (Nat×Bool))(op:xq)(tm:Tr V)(J:St)(K:V->St->Prop):wpG E ⟨d,g,op⟩ tm J K=DU g tm (wpOp E op tm J K) (K .tnil J):=rfl
def auP(x:O)(K:V->St->Prop):wpOp E (.MH x) tm J K=D9 (some (x.ev tm)) λv=>K v J:=rfl
def auQ(b:AC):Wx E b Q .normal tm J=bI E b tm J Q:=rfl
def auR(b:AC)(i:Nat):Wx E b Q (.exit i) tm J=Q (.exit i) tm J:=rfl
def auS(b:AC):Wx E b Q .ret tm J=Q .ret tm J:=rfl
def auT(i:Nat):ajq i Q .normal tm J=Q .normal tm J:=rfl
def auU(i j:Nat):ajq i Q (.exit j) tm J=Q (bif Nat.beq j i then .normal else .exit j) tm J:=rfl
def auV(i:Nat):ajq i Q .ret tm J=Q .ret tm J:=rfl
variable (I:Nat→Tr V→St→Prop) (m:Nat) (res:List (Nat×Option (Nat×Bool))) (K:V→St→Prop)
def auW:ajr I m Q .normal tm J=∃m',m'<m/\I m' tm J:=rfl
def auX(i:Nat):ajr I m Q (.exit i) tm J=Q (.exit i) tm J:=rfl
def auY:ajr I m Q .ret tm J=Q .ret tm J:=rfl
def apj:ab9 res K .normal tm J=D9 (result tm J res) λv=>K v J:=by unfold ab9 D9;grind
def auZ:ab9 res K .ret tm J=D9 (result tm J res) λv=>K v J:=by unfold ab9 D9;grind
end
def aj7(p q:Rat):decide (nC p q<0)=decide (p<q):=by
 by_cases h:p<q
 .rw[aw h,aw];exact sN.mpr h
 .rw[ap h,ap];exact λe=>h (sN.mp e)
def aj8(tm:Tr V)(d:Nat)(v:V):Tr.get (G6 tm (some d) v) d=some v:=by grind[G6,Tr.wo]
def au0(tm:Tr V)(d j:Nat)(v:V)(h:j≠d):Tr.get (G6 tm (some d) v) j=Tr.get tm j:=by grind[G6,Tr.wo]
def acp(tm:Tr V)(J:St):rH tm J []=some .tnil:=rfl
def aj9(tm:Tr V)(J:St)(t:Nat)(r:List (Nat×Option (Nat×Bool))):rH tm J ((t,none)::r)=match tm.get t,rH tm J r with|some v,some w=>some (.aU v w)|_,_=>none:=rfl
def akb(tm:Tr V)(J:St)(t n:Nat)(g:Bool)(r:List (Nat×Option (Nat×Bool))):rH tm J ((t,some (n,g))::r)=match(match r8 tm t with|.c (.ptr b o)=>ld J.h b o n g|_=>none),rH tm J r with|some v,some w=>some (.aU v w)|_,_=>none:=rfl
def Fr.new1{J:St}{h:Tr Bk}{n:Nat}{k:Bk}(hf:Fr J ⟨h,n⟩):Fr J ⟨hset h n k,n+1⟩:=Fr.new hf k
def Fr.set1{J:St}{h:Tr Bk}{n b:Nat}{k:Bk}(hf:Fr J ⟨h,n⟩)(h1:J.aj<=b)(h2:b<n):Fr J ⟨hset h b k,n⟩:=Fr.set hf h1 h2 k
def ay{h:Tr Bk}{b:Nat}{k:Bk}(e:h b=some k)(o n:Nat)(g:Bool):ld h b o n g=bif k.rd then zT k.cells o n g else none:=by unfold ld;rw[e]
def aJ{h:Tr Bk}{b:Nat}{k:Bk}(e:h b=some k)(o:Nat)(vs:List B):sto h b o vs=match bif k.pl then yc k.cells o vs else none with|some l=>some (hset h b ⟨l,k.opn⟩)|none=>none:=by grind[sto]
def plo(o:Option (Nat×Nat)):Bool:=match o with|some (0,_)=>false|_=>true
def Yl(o:Option (Nat×Nat)):Bool:=match o with|some (0,t)=>Nat.beq t 1|_=>true
def au1(k:Bk):k.pl=plo k.opn:=rfl
def Qg(k:Bk):k.rd=Yl k.opn:=rfl
def akc:plo none=true:=rfl
def akd:Yl none=true:=rfl
def asF(e t:Nat)(h:e≠0):plo (some (e,t))=true:=by cases e with|zero=>omega|succ e=>rfl
def DI(e t:Nat)(h:e≠0):Yl (some (e,t))=true:=by cases e with|zero=>omega|succ e=>rfl
def ayO:Yl (some (0,1))=true:=rfl
def ake(k:IntKind)(n:Int):B.kn (.int k n)=true:=rfl
theorem wB(b:Bool):B.kn (.bool b)=true:=rfl
theorem AP(s:ByteArray):B.kn (.str s)=true:=rfl
def au2(b o:Nat):B.kn (.ptr b o)=true:=rfl
def apk:B.kn .VZ=true:=rfl
def ayP(b o n:Nat)(c:Cap):B.kn (.sl b o n c)=true:=rfl
def apl:B.kn .aQ=true:=rfl
def ayQ(b:Nat):B.kn (.mp b)=true:=rfl
def HL.kn{h:Tr Bk}{e:Nat}{v:B}{n:Nat}{G:Nat->List B}(hl:HL h e v n G):v.kn=true:=by rcases hl with⟨-,rfl⟩|⟨b,o,c,rfl,-⟩<;>rfl
def HC.kn{h:Tr Bk}{v:B}{n:Nat}{G:Nat->B}(hl:HC h v n G):v.kn=true:=by rcases hl with⟨-,rfl⟩|⟨b,o,c,rfl,-⟩<;>rfl
def ayR(x:B)(l:List B)(o n:Nat):zT (x::l) o n true=bif Nat.beq (((x::l).drop o).take n).length n&&(((x::l).drop o).take n).all B.kn then some (.agg (((x::l).drop o).take n))else none:=rfl
def ayS(x:B)(l:List B)(o n:Nat):zT (x::l) o n false=match(x::l).drop o with|x::_=>bif x.kn then some (.c x)else none|[]=>none:=rfl
def ayT(x:B)(l vs:List B):yc (x::l) 0 vs=bif Nat.ble vs.length (x::l).length then some (vs++(x::l).drop vs.length)else none:=by rw[yc]
def ayU(x:B)(l:List B)(o:Nat)(vs:List B):yc (x::l) (o+1) vs=match yc l o vs with|some r=>some (x::r)|none=>none:=by rfl
def akf(a b:Nat):(Int.ofNat a=Int.ofNat b)=(a=b):=propext ⟨Int.ofNat.inj,λe=>by rw[e]⟩
def eq_neg(a b:Nat):(Int.ofNat a=Int.negSucc b)=False:=by simp
def ayV[h:Decidable True]: @decide True h=true:=by simp
def ayW[h:Decidable False]: @decide False h=false:=by simp
attribute [go_sem] agU ape apf auI auJ aj3 agM wpOps_cons ajB atZ o_load aoG aoH aoI at1 ayt at6 at7 aua aub ayu ayv ayw ayx ayy ayz ayA auc aud ayB ajD ayC aoJ aoK aue ayE ayD ayF aoL Em auf abU ayG aoF agL aug aoM ayH auh En rep ayI aoN aui aBG aBH agC aoD agD agE agF agG agH agI agJ V.cells aoE ays ajA atY aA aBI aBJ cw cY Bool.and_true Bool.true_and List.drop_succ_cons gS fu cA bA List.length_nil Nat.reduceAdd cx cy Ze Uu nV DF au dc fW fh List.map_cons List.map_nil result ajz aC aoU aoV aoQ auq aoY ao0 ajM ajO ajQ aus auu auw ajS ajU auz auB ao1 ajW ao3 auD ajY ao5 ao7 agQ aoR aoS auj ajF agN ajG aoO ajH agO acj ajI agP ajE aoT ajJ aur aoZ ajN ajP ajR aut auv auy ajT ajV auA auC ao2 ajX ao4 auE ajZ ao6 ao8 aco Zh agS aoW ayJ acn agR List.contains_cons List.contains_nil Nat.reduceBEq Bool.or_false Bool.or_true Bool.false_or Bool.true_or bB dT List.getD_cons_zero List.getD_cons_succ am and_true aph auk aul aum aun auo aup aoP ayK aoX auP auG ayL seq_eq aj2 apa apb auH apc aj6 agT apg auQ auR auS auT auU auV auW auX auY apj auZ aj7 ake wB AP au2 apk ayP apl ayQ ayR ayS ayT ayU akf eq_neg ayV ayW au1 Qg akc akd asF DI ayO aj8 au0 acp aj9 akb ayp acf acg ajy agB ayq ayr atU ajx ayn atT ajw agA Zb atQ Y9 atS Za agz ayo aoB aeh atV Zd ach atW atX aoC Zc
end Go.Proofs.Xe
