import Derived.Test.YtjhhfbbndfpdaaaGreatDoorYg10
import Derived.Attr
set_option linter.all false
namespace Go.Proofs.Xe
open Go.RowKit Go.Proofs.Ins
noncomputable def abO(tm:Tr V):List Nat->Tr V
 |[]=>tm
 |d::l=>(abO tm l).set d none
def KO(tm:Tr V):∀ds,BO tm ds=some (abO tm ds)
 |[]=>rfl
 |d::l=>by unfold BO;rw[KO tm l];rfl
theorem adW(tm:Tr V)(j:Nat):∀ds:List Nat,ds.contains j=false->(abO tm ds).get j=tm.get j
 |[],_=>rfl
 |d::l,h=>by rw[List.contains_cons,Bool.or_eq_false_iff]at h;show((abO tm l).set d none).get j=_;rw[Tr.vI,ae (by simpa using h.1),adW tm j l h.2]
def ai6(tm:Tr V)(ds:List Nat)(j:Nat)(h:ds.contains j=false):r8 (abO tm ds) j=r8 tm j:=by grind[r8,adW]
def fnd:List Rs->Nat->Option Rs
 |[],_=>none
 |r::l,u=>bif Nat.beq r.i u then some r else fnd l u
def Y3(u:Nat):∀l:List Rs,l.find? (λr=>Nat.beq r.i u)=fnd l u
 |[]=>rfl
 |r::l=>by rw[List.find?_cons,fnd,Y3 u l];cases Nat.beq r.i u<;>rfl
noncomputable def tmO:Option (Tr V)->Option Rs->Option (Tr V)
 |some tm,some r=>some (Gh tm r.d r.v)
 |_,_=>none
def ai7(bP:Tr V)(res:List Rs):KD bP res []=some bP:=rfl
def agj(bP:Tr V)(res:List Rs)(u:Nat)(us:List Nat):KD bP res (u::us)=tmO (KD bP res us) (fnd res u):=by
 rw[KD,Y3];cases KD bP res us with
 |none=>rfl
 |some tm=>
  cases fnd res u with
  |none=>rfl
  |some r=>show KC tm r.d r.v=_;rw[NV];rfl
def ai8(tm:Tr V)(i:Nat)(d:Option Nat)(v:V):tmO (some tm) (some ⟨i,d,v⟩)=some (Gh tm d v):=rfl
def anX(i:Nat)(d:Option Nat)(v:V)(l:List Rs):fnd (⟨i,d,v⟩::l) i=some ⟨i,d,v⟩:=by unfold fnd;simp
def ai9(i u:Nat)(d:Option Nat)(v:V)(l:List Rs)(h:i≠u):fnd (⟨i,d,v⟩::l) u=fnd l u:=by grind[fnd,UC]
def agk(dA tm:Tr V):Gw dA tm []=some tm:=rfl
def abP(dA tm:Tr V)(t:Nat)(l:List Nat):Gw dA tm (t::l)=match Gw dA tm l with|some tm=>some (Gh tm (some t) (r8 dA t))|none=>none:=by rfl
def ate(dA bP:Tr V)(res:List Rs)(us os:List Nat):Pq dA bP res us os=match KD bP res us with|some tm=>Gw dA tm os|none=>none:=rfl
def aja(bP:Tr V):Nj bP []=some bP:=rfl
def agl(bP:Tr V)(i:Nat)(d:Option Nat)(v:V)(l:List Rs):Nj bP (⟨i,d,v⟩::l)=match Nj bP l with|some tm=>some (Gh tm d v)|none=>none:=by grind[Nj,NV]
def Dj(g:Option (Nat×Bool))(tm:Tr V)(A B:Prop):Prop:=match gate g tm with|some true=>A|some false=>B|none=>False
def gsV(v:V)(b:Bool)(A B:Prop):Prop:=match v with|.c (.bool c)=>(bif c==b then A else B)|.tnil=>B|_=>False
def atf(tm:Tr V)(A B:Prop):Dj none tm A B=A:=rfl
def atg(t:Nat)(b:Bool)(tm:Tr V)(A B:Prop):Dj (some (t,b)) tm A B=gsV (r8 tm t) b A B:=by grind[Dj,gsV,gate]
def ath(A B:Prop):gsV (.c (.bool true)) true A B=A:=rfl
def ati(A B:Prop):gsV (.c (.bool true)) false A B=B:=rfl
def atj(A B:Prop):gsV (.c (.bool false)) true A B=B:=rfl
def atl(A B:Prop):gsV (.c (.bool false)) false A B=A:=rfl
def anY(b:Bool)(A B:Prop):gsV .tnil b A B=B:=rfl
def Jf{p:Prop}[Decidable p]{A B:Prop}(h1:p->A)(h2:¬p->B):gsV (.c (.bool (decide p))) true A B:=by
 by_cases h:p
 .rw[aq h];exact h1 h
 .rw[af h];exact h2 h
def Y4{p:Prop}[Decidable p]{A B:Prop}(h1:p->B)(h2:¬p->A):gsV (.c (.bool (decide p))) false A B:=by
 by_cases h:p
 .rw[aq h];exact h1 h
 .rw[af h];exact h2 h
def vY(dA bP:Tr V)(qs:List DO)(J:St)(res:List Rs)(pd:List jd)(K:St->List Rs->List jd->Prop):Prop:=
 match zi dA bP qs J res pd with
 |some (J,res,pd)=>K J res pd
 |none=>False
def anZ(dA bP:Tr V)(J:St)(res:List Rs)(pd:List jd)(K:St->List Rs->List jd->Prop):vY dA bP [] J res pd K=K J res pd:=rfl
section
variable (E:Env) (pt:List (List Nat)) (dA bP:Tr V) (J:St) (res:List Rs) (pd:List jd)
def pW(i:Nat)(us os:List Nat)(d:Option Nat)(g:Option (Nat×Bool))(op:xu)(l:List DO)(K:St->List Rs->List jd->Prop)(h:op.kind=.q):
  vY dA bP (⟨i,us,os,⟨d,g,op⟩⟩::l) J res pd K=match Pq dA bP res us os with
   |some tm=>Dj g tm (wpOp E op tm J λv _=>vY dA bP l J (⟨i,d,v⟩::res) (⟨i,⟨d,g,op⟩,tm,v,true,none⟩::pd) K) (vY dA bP l J (⟨i,d,.tnil⟩::res) (⟨i,⟨d,g,op⟩,tm,.tnil,false,none⟩::pd) K)
   |none=>False:=by
 unfold vY Dj
 rw[zi]
 dsimp only
 cases Pq dA bP res us os with
 |none=>rfl
 |some tm=>
  dsimp only
  have hc:∀g l,op≠.call g l:=λg l e=>by rw[e]at h;cases h
  grind[fM,Dw]
def agm(i:Nat)(us os:List Nat)(d:Option Nat)(g:Option (Nat×Bool))(z:List B)(l:List DO)(K:St->List Rs->List jd->Prop):
  vY dA bP (⟨i,us,os,⟨d,g,.alloc z⟩⟩::l) J res pd K=match Pq dA bP res us os with
   |some tm=>Dj g tm (vY dA bP l ⟨hset J.h J.aj ⟨z,none⟩,J.aj+1⟩ (⟨i,d,.c (.ptr J.aj 0)⟩::res) (⟨i,⟨d,g,.alloc z⟩,tm,.c (.ptr J.aj 0),true,some J.aj⟩::pd) K)
    (vY dA bP l J (⟨i,d,.tnil⟩::res) (⟨i,⟨d,g,.alloc z⟩,tm,.tnil,false,none⟩::pd) K)
   |none=>False:=by
 unfold vY Dj
 rw[zi]
 dsimp only
 cases Pq dA bP res us os with
 |none=>rfl
 |some tm=>
  grind[xu.kind,oP,lY]
def an0(i:Nat)(us os:List Nat)(d:Option Nat)(g:Option (Nat×Bool))(x:O)(l:List DO)(K:St->List Rs->List jd->Prop):
  vY dA bP (⟨i,us,os,⟨d,g,.box x⟩⟩::l) J res pd K=match Pq dA bP res us os with
   |some tm=>Dj g tm (match(x.ev tm).cells with
    |some z=>vY dA bP l ⟨hset J.h J.aj ⟨z,none⟩,J.aj+1⟩ (⟨i,d,.c (.ptr J.aj 0)⟩::res) (⟨i,⟨d,g,.box x⟩,tm,.c (.ptr J.aj 0),true,some J.aj⟩::pd) K
    |none=>False) (vY dA bP l J (⟨i,d,.tnil⟩::res) (⟨i,⟨d,g,.box x⟩,tm,.tnil,false,none⟩::pd) K)
   |none=>False:=by
 unfold vY Dj
 rw[zi]
 dsimp only
 cases Pq dA bP res us os with
 |none=>rfl
 |some tm=>
  grind[xu.kind,oP,lY]
def an1(i:Nat)(us os:List Nat)(d:Option Nat)(g:Option (Nat×Bool))(e n:Nat)(z:List B)(ps:List (Nat×Nat×O))(l:List DO)(K:St->List Rs->List jd->Prop)(hn:n*e<=16777216)(hn2:n<=16777216):
  vY dA bP (⟨i,us,os,⟨d,g,.bsl e n z ps⟩⟩::l) J res pd K=match Pq dA bP res us os with
   |some tm=>Dj g tm (match DW (rep z n) (ps.map λp=>(p.1,p.2.1,p.2.2.ev tm))with
    |some c=>vY dA bP l ⟨hset J.h J.aj ⟨c,none⟩,J.aj+1⟩ (⟨i,d,.c (.sl J.aj 0 n (.ex n))⟩::res) (⟨i,⟨d,g,.bsl e n z ps⟩,tm,.c (.sl J.aj 0 n (.ex n)),true,some J.aj⟩::pd) K
    |none=>False) (vY dA bP l J (⟨i,d,.tnil⟩::res) (⟨i,⟨d,g,.bsl e n z ps⟩,tm,.tnil,false,none⟩::pd) K)
   |none=>False:=by
 unfold vY Dj
 rw[zi]
 dsimp only
 cases Pq dA bP res us os with
 |none=>rfl
 |some tm=>
  grind[xu.kind,oP,nV,lY]
def agn(J:St):List jd->Prop
 |[]=>True
 |p::l=>again J p=true/\agn J l
theorem Wu(J:St):∀l:List jd,(l.all (again J)=true)=agn J l
 |[]=>by simp[agn]
 |p::l=>by rw[cy,ap,Wu J l];rfl
def an2(J:St):agn J []=True:=rfl
def ajb(J:St)(p:jd)(l:List jd):agn J (p::l)=(again J p=true/\agn J l):=rfl
def agp(l:List Nat):List jd->List jd
 |[]=>[]
 |p::pd=>bif l.contains p.i then agp l pd else p::agp l pd
theorem ajc(l:List Nat):∀pd:List jd,pd.filter (λp=>!(l.contains p.i))=agp l pd
 |[]=>rfl
 |p::pd=>by rw[List.filter_cons,agp,ajc l pd];cases l.contains p.i<;>rfl
theorem an3 (qs:List DO) (Q:Tr V→St→Prop):YP E pt dA bP (.fin qs) J res pd Q=vY dA bP qs J res pd fun J res pd=>agn J pd∧(match Nj bP res with|some tm=>Q tm J|none=>False):=by
 grind[YP,vY,Wu]
theorem an4 (qs:List DO) (i:Nat) (us os:List Nat) (d:Option Nat) (g:Option (Nat×Bool)) (op:xu) (r:Dr) (Q:Tr V→St→Prop) :
  YP E pt dA bP (.act qs ⟨i,us,os,⟨d,g,op⟩⟩ r) J res pd Q=vY dA bP qs J res pd fun J res pd=>agn J pd∧(match Pq dA bP res us os with
   | some tm=>wpG E ⟨d,g,op⟩ tm J fun v J'=>YP E pt dA bP r J' (⟨i,d,v⟩::res) (agp (pt.getD i []) pd) Q
   | none=>False):=by
 grind[YP,vY,Wu,ajc]
def ajd(b:B):afH b b=b.kn:=by
 cases b<;>simp[afH,B.kn]
 case int k n=>cases n<;>simp[eqI]
 case sl b o n c=>cases c<;>simp[eqC]
def abQ:∀l:List B,Po l l=l.all B.kn
 |[]=>rfl
 |b::l=>by rw[cy];unfold Po;rw[ajd b,abQ l]
def an5(l:List B):eqV (.agg l) (.agg l)=l.all B.kn:=abQ l
def axT(b:B):eqV (.c b) (.c b)=b.kn:=ajd b
def je(i:Nat)(d:Option Nat)(g9:Option (Nat×Bool))(op:xu)(tm:Tr V)(v:V)(h:op.kind=.q)(h2:op.looks=false):again J ⟨i,⟨d,g9,op⟩,tm,v,true,none⟩=true:=by grind[again]
def abR(i:Nat)(d:Option Nat)(g9:Option (Nat×Bool))(n:Nat)(g:Bool)(x:O)(tm:Tr V)(v:V):again J ⟨i,⟨d,g9,.load n g x⟩,tm,v,true,none⟩=match(match x.ev tm with|.c (.ptr b o)=>ld J.h b o n g|_=>none)with|some u=>eqV u v|none=>false:=by rfl
def Y5(i:Nat)(d:Option Nat)(g9:Option (Nat×Bool))(z:List B)(tm:Tr V)(v:V)(b:Nat):again J ⟨i,⟨d,g9,.alloc z⟩,tm,v,true,some b⟩=match J.h b with|some ⟨c,none⟩=>Po c z|_=>false:=by rfl
def agq(i:Nat)(d:Option Nat)(g9:Option (Nat×Bool))(e n:Nat)(z:List B)(ps:List (Nat×Nat×O))(tm:Tr V)(v:V)(b:Nat)(hn:n*e<=16777216)(hn2:n<=16777216):again J ⟨i,⟨d,g9,.bsl e n z ps⟩,tm,v,true,some b⟩=match DW (rep z n) (ps.map λp=>(p.1,p.2.1,p.2.2.ev tm))with|some z=>(match J.h b with|some ⟨c,none⟩=>Po c z|_=>false)|none=>false:=by grind[again,xu.kind,oP,nV]
end
def an6(J:St)(i:Nat)(o:AO)(tm:Tr V)(v:V)(nm:Option Nat):again J ⟨i,o,tm,v,false,nm⟩=true:=rfl
section
def E0:Env:=⟨λ_=>none,λ_ _ _=>none⟩
variable (dA bP tm:Tr V) (J:St) (res:List Rs) (pd:List jd) (i:Nat) (us os:List Nat) (d:Option Nat) (g9:Option (Nat×Bool)) (l:List DO) (K:St→List Rs→List jd→Prop) (v:V)
def qR(g:Option (Nat×Bool))(dA bP:Tr V)(res:List Rs)(us os:List Nat)(J:St)(pd:List jd)(i:Nat)(d:Option Nat)(op:xu)(l:List DO)(K:St->List Rs->List jd->Prop):Prop:=match Pq dA bP res us os with
 |some tm=>Dj g tm (wpOp E0 op tm J λv _=>vY dA bP l J (⟨i,d,v⟩::res) (⟨i,⟨d,g,op⟩,tm,v,true,none⟩::pd) K) (vY dA bP l J (⟨i,d,.tnil⟩::res) (⟨i,⟨d,g,op⟩,tm,.tnil,false,none⟩::pd) K)
 |none=>False
def axU(g:Option (Nat×Bool))(dA bP:Tr V)(res:List Rs)(us os:List Nat)(J:St)(pd:List jd)(i:Nat)(d:Option Nat)(op:xu)(l:List DO)(K:St->List Rs->List jd->Prop):qR g dA bP res us os J pd i d op l K=match Pq dA bP res us os with
 |some tm=>Dj g tm (wpOp E0 op tm J λv _=>vY dA bP l J (⟨i,d,v⟩::res) (⟨i,⟨d,g,op⟩,tm,v,true,none⟩::pd) K) (vY dA bP l J (⟨i,d,.tnil⟩::res) (⟨i,⟨d,g,op⟩,tm,.tnil,false,none⟩::pd) K)
 |none=>False:=rfl
def atm(x:O):vY dA bP (⟨i,us,os,⟨d,g9,.mov x⟩⟩::l) J res pd K=qR g9 dA bP res us os J pd i d (.mov x) l K:=pW E0 _ _ _ _ _ _ _ _ _ _ _ _ _ rfl
def atn(x:O):again J ⟨i,⟨d,g9,.mov x⟩,tm,v,true,none⟩=true:=je _ _ _ _ _ _ _ rfl rfl
def an7(c a b:O):vY dA bP (⟨i,us,os,⟨d,g9,.pick c a b⟩⟩::l) J res pd K=qR g9 dA bP res us os J pd i d (.pick c a b) l K:=pW E0 _ _ _ _ _ _ _ _ _ _ _ _ _ rfl
def an8(c a b:O):again J ⟨i,⟨d,g9,.pick c a b⟩,tm,v,true,none⟩=true:=je _ _ _ _ _ _ _ rfl rfl
def an9(n:Nat)(g:Bool)(x:O):vY dA bP (⟨i,us,os,⟨d,g9,.load n g x⟩⟩::l) J res pd K=qR g9 dA bP res us os J pd i d (.load n g x) l K:=pW E0 _ _ _ _ _ _ _ _ _ _ _ _ _ rfl
def aje(n:Nat)(x:O):vY dA bP (⟨i,us,os,⟨d,g9,.DV n x⟩⟩::l) J res pd K=qR g9 dA bP res us os J pd i d (.DV n x) l K:=pW E0 _ _ _ _ _ _ _ _ _ _ _ _ _ rfl
def ajf(n:Nat)(x:O):again J ⟨i,⟨d,g9,.DV n x⟩,tm,v,true,none⟩=true:=je _ _ _ _ _ _ _ rfl rfl
def ajg(o n:Nat)(g:Bool)(x:O):vY dA bP (⟨i,us,os,⟨d,g9,.field o n g x⟩⟩::l) J res pd K=qR g9 dA bP res us os J pd i d (.field o n g x) l K:=pW E0 _ _ _ _ _ _ _ _ _ _ _ _ _ rfl
def ajh(o n:Nat)(g:Bool)(x:O):again J ⟨i,⟨d,g9,.field o n g x⟩,tm,v,true,none⟩=true:=je _ _ _ _ _ _ _ rfl rfl
def aji(e:Nat)(x j:O):vY dA bP (⟨i,us,os,⟨d,g9,.Gu e x j⟩⟩::l) J res pd K=qR g9 dA bP res us os J pd i d (.Gu e x j) l K:=pW E0 _ _ _ _ _ _ _ _ _ _ _ _ _ rfl
def ajj(e:Nat)(x j:O):again J ⟨i,⟨d,g9,.Gu e x j⟩,tm,v,true,none⟩=true:=je _ _ _ _ _ _ _ rfl rfl
def ato(n:Nat)(x:O):vY dA bP (⟨i,us,os,⟨d,g9,.ext n x⟩⟩::l) J res pd K=qR g9 dA bP res us os J pd i d (.ext n x) l K:=pW E0 _ _ _ _ _ _ _ _ _ _ _ _ _ rfl
def atp(n:Nat)(x:O):again J ⟨i,⟨d,g9,.ext n x⟩,tm,v,true,none⟩=true:=je _ _ _ _ _ _ _ rfl rfl
def atq(b:BinOp)(x y:O):vY dA bP (⟨i,us,os,⟨d,g9,.bin b x y⟩⟩::l) J res pd K=qR g9 dA bP res us os J pd i d (.bin b x y) l K:=pW E0 _ _ _ _ _ _ _ _ _ _ _ _ _ rfl
def atr(b:BinOp)(x y:O):again J ⟨i,⟨d,g9,.bin b x y⟩,tm,v,true,none⟩=true:=je _ _ _ _ _ _ _ rfl rfl
def att(p:Bool)(x y:O):vY dA bP (⟨i,us,os,⟨d,g9,.eqb p x y⟩⟩::l) J res pd K=qR g9 dA bP res us os J pd i d (.eqb p x y) l K:=pW E0 _ _ _ _ _ _ _ _ _ _ _ _ _ rfl
def atu(p:Bool)(x y:O):again J ⟨i,⟨d,g9,.eqb p x y⟩,tm,v,true,none⟩=true:=je _ _ _ _ _ _ _ rfl rfl
def ajk(p:Bool)(x y:O):vY dA bP (⟨i,us,os,⟨d,g9,.Gv p x y⟩⟩::l) J res pd K=qR g9 dA bP res us os J pd i d (.Gv p x y) l K:=pW E0 _ _ _ _ _ _ _ _ _ _ _ _ _ rfl
def ajl(p:Bool)(x y:O):again J ⟨i,⟨d,g9,.Gv p x y⟩,tm,v,true,none⟩=true:=je _ _ _ _ _ _ _ rfl rfl
def ajm(p:Bool)(x y:O):vY dA bP (⟨i,us,os,⟨d,g9,.IQ p x y⟩⟩::l) J res pd K=qR g9 dA bP res us os J pd i d (.IQ p x y) l K:=pW E0 _ _ _ _ _ _ _ _ _ _ _ _ _ rfl
def ajn(p:Bool)(x y:O):again J ⟨i,⟨d,g9,.IQ p x y⟩,tm,v,true,none⟩=true:=je _ _ _ _ _ _ _ rfl rfl
def atv(k:Nat)(p:Bool)(x:O):vY dA bP (⟨i,us,os,⟨d,g9,.nil k p x⟩⟩::l) J res pd K=qR g9 dA bP res us os J pd i d (.nil k p x) l K:=pW E0 _ _ _ _ _ _ _ _ _ _ _ _ _ rfl
def atw(k:Nat)(p:Bool)(x:O):again J ⟨i,⟨d,g9,.nil k p x⟩,tm,v,true,none⟩=true:=je _ _ _ _ _ _ _ rfl rfl
def atx(x:O):vY dA bP (⟨i,us,os,⟨d,g9,.not x⟩⟩::l) J res pd K=qR g9 dA bP res us os J pd i d (.not x) l K:=pW E0 _ _ _ _ _ _ _ _ _ _ _ _ _ rfl
def aty(x:O):again J ⟨i,⟨d,g9,.not x⟩,tm,v,true,none⟩=true:=je _ _ _ _ _ _ _ rfl rfl
def aoa(k:IntKind)(x:O):vY dA bP (⟨i,us,os,⟨d,g9,.conv k x⟩⟩::l) J res pd K=qR g9 dA bP res us os J pd i d (.conv k x) l K:=pW E0 _ _ _ _ _ _ _ _ _ _ _ _ _ rfl
def aob(k:IntKind)(x:O):again J ⟨i,⟨d,g9,.conv k x⟩,tm,v,true,none⟩=true:=je _ _ _ _ _ _ _ rfl rfl
def ajo(z:List B)(ps:List (Nat×Nat×O)):vY dA bP (⟨i,us,os,⟨d,g9,.build z ps⟩⟩::l) J res pd K=qR g9 dA bP res us os J pd i d (.build z ps) l K:=pW E0 _ _ _ _ _ _ _ _ _ _ _ _ _ rfl
def ajp(z:List B)(ps:List (Nat×Nat×O)):again J ⟨i,⟨d,g9,.build z ps⟩,tm,v,true,none⟩=true:=je _ _ _ _ _ _ _ rfl rfl
def aoc(f:Nat)(cs:List O):vY dA bP (⟨i,us,os,⟨d,g9,.Tn f cs⟩⟩::l) J res pd K=qR g9 dA bP res us os J pd i d (.Tn f cs) l K:=pW E0 _ _ _ _ _ _ _ _ _ _ _ _ _ rfl
def aod(f:Nat)(cs:List O):again J ⟨i,⟨d,g9,.Tn f cs⟩,tm,v,true,none⟩=true:=je _ _ _ _ _ _ _ rfl rfl
def atz(x:O):vY dA bP (⟨i,us,os,⟨d,g9,.len x⟩⟩::l) J res pd K=qR g9 dA bP res us os J pd i d (.len x) l K:=pW E0 _ _ _ _ _ _ _ _ _ _ _ _ _ rfl
def atA(x:O):again J ⟨i,⟨d,g9,.len x⟩,tm,v,true,none⟩=true:=je _ _ _ _ _ _ _ rfl rfl
def ajq(e:Nat)(x:O)(lo hi mx:Option O):vY dA bP (⟨i,us,os,⟨d,g9,.slice e x lo hi mx⟩⟩::l) J res pd K=qR g9 dA bP res us os J pd i d (.slice e x lo hi mx) l K:=pW E0 _ _ _ _ _ _ _ _ _ _ _ _ _ rfl
def ajr(e:Nat)(x:O)(lo hi mx:Option O):again J ⟨i,⟨d,g9,.slice e x lo hi mx⟩,tm,v,true,none⟩=true:=je _ _ _ _ _ _ _ rfl rfl
def aoe(x:O):vY dA bP (⟨i,us,os,⟨d,g9,.Tq x⟩⟩::l) J res pd K=qR g9 dA bP res us os J pd i d (.Tq x) l K:=pW E0 _ _ _ _ _ _ _ _ _ _ _ _ _ rfl
def aof(x:O):again J ⟨i,⟨d,g9,.Tq x⟩,tm,v,true,none⟩=true:=je _ _ _ _ _ _ _ rfl rfl
def aog(x y:O):vY dA bP (⟨i,us,os,⟨d,g9,.min2 x y⟩⟩::l) J res pd K=qR g9 dA bP res us os J pd i d (.min2 x y) l K:=pW E0 _ _ _ _ _ _ _ _ _ _ _ _ _ rfl
def aoh(x y:O):again J ⟨i,⟨d,g9,.min2 x y⟩,tm,v,true,none⟩=true:=je _ _ _ _ _ _ _ rfl rfl
end
def atB{E:Env}{tm:Tr V}{J:St}{Q:AX->Tr V->St->Prop}{d:Dr}{pt:List (List Nat)}{ds:List Nat}(h:YP E pt tm (abO tm ds) d J [] [] λtm' J'=>Q .normal tm' J'):bM E (.drawn d pt ds) tm J Q:=
 afX _ (KO tm ds) h
section
variable {E:Env}
theorem aoi{n:Nat}{op:xu}{tm:Tr V}{J J':St}{v:V}{K:V->St->Prop}(h:qI (jl E n) op tm J=some (v,J'))(hk:K v J'):wpOp E op tm J K:=by
 unfold wpOp;split
 .next g args=>
  unfold qI at h;simp only[xu.kind]at h;split at h
  .next f a e=>
   unfold adN at e;cases hg:g.ev tm with
   |fn f' caps=>
    dsimp only at e
    rw[hg]at e
    obtain⟨rfl,rfl⟩:=Prod.mk.inj (eE e)
    exact⟨n,v,J',h,hk⟩
   |_=>grind
  .cases h
 .next hne=>
  have e:qI (λ_ _ _=>none) op tm J=qI (jl E n) op tm J:=by
   unfold qI;cases hk2:op.kind with
   |c=>cases op<;>simp only[xu.kind,reduceCtorEq]at hk2;grind
   |_=>rfl
  grind
def ajs{n:Nat}{o:AO}{tm:Tr V}{J J':St}{v:V}{K:V->St->Prop}(h:stepG (jl E n) o tm J=some (v,J'))(hk:K v J'):wpG E o tm J K:=by grind[wpG,stepG,aoi]
theorem Y6{n:Nat}:∀{l:List AO}{tm tm':Tr V}{J J':St}{Q:Tr V->St->Prop},uJ (jl E n) l tm J=some (tm',J')->Q tm' J'->wpOps E l tm J Q
 |[],_,_,_,_,_,h,hq=>by cases h;exact hq
 |o::l,tm,tm',J,J',Q,h,hq=>by
  unfold uJ at h;split at h
  .next v σ1 e=>
   rw[NV]at h;exact ajs e (Y6 h hq)
  .cases h
theorem ajt{n:Nat}{pt:List (List Nat)}{dA bP:Tr V}:∀{d:Dr}{J J':St}{res:List Rs}{pd:List jd}{tm':Tr V}{Q:Tr V->St->Prop},DY (jl E n) pt dA bP d J res pd=some (tm',J')->Q tm' J'->YP E pt dA bP d J res pd Q
 |.fin qs,J,J',res,pd,tm',Q,h,hq=>by grind[Go.Proofs.Xe.DY,Go.Proofs.Xe.YP]
 |.act qs x r,J,J',res,pd,tm',Q,h,hq=>by
  unfold DY at h;unfold YP;split at h
  .next σ1 res1 pd1 e=>
   rw[e];dsimp only;cases hb:pd1.all (again σ1)with
   |false=>rw[hb]at h;cases h
   |true=>
    rw[hb]at h
    simp only[ce]at h
    refine⟨rfl,?_⟩
    split at h
    .next YG e2=>
     rw[e2]
     dsimp only
     split at h
     .next v σ2 e3=>exact ajs e3 (ajt h hq)
     .cases h
    .cases h
  .cases h
end
section
variable (E:Env) (tm:Tr V) (J:St) (Q:AX→Tr V→St→Prop)
def atC(l:List AO):bM E (.ops l) tm J Q=wpOps E l tm J λtm' J'=>Q .normal tm' J':=by
 refine propext ⟨?_,anI⟩;rintro⟨n,e,tm',J',h,hq⟩;cases n with
 |zero=>grind[exec]
 |succ n=>
  simp only[exec,Yt]at h
  grind[Y6]
def axV(d:Dr)(pt:List (List Nat))(ds:List Nat):bM E (.drawn d pt ds) tm J Q=YP E pt tm (abO tm ds) d J [] [] λtm' J'=>Q .normal tm' J':=by
 refine propext ⟨?_,atB⟩;rintro⟨n,e,tm',J',h,hq⟩;cases n with
 |zero=>grind[exec]
 |succ n=>
  simp only[exec,xDr,Yt,KO]at h
  grind[ajt]
def seq_eq(a b:AC):bM E (.seq a b) tm J Q=bM E a tm J (Wp E b Q):=by
 refine propext ⟨?_,run_seq⟩;rintro⟨n,e,tm',J',h,hq⟩;cases n with
 |zero=>grind[exec]
 |succ n=>
  rw[exec]at h
  cases hx:exec E n a tm J with
  |none=>rw[hx]at h;cases h
  |some q=>
   rw[hx]at h
   obtain⟨e1,KI,σ1⟩:=q
   refine⟨n,e1,KI,σ1,hx,?_⟩
   cases e1 with
   |normal=>exact⟨n,e,tm',J',h,hq⟩
   |exit i=>cases h;exact hq
   |ret=>cases h;exact hq
def aju(i:Nat)(a:AC):bM E (.block i a) tm J Q=bM E a tm J (aiV i Q):=by
 refine propext ⟨?_,FD⟩;rintro⟨n,e,tm',J',h,hq⟩;cases n with
 |zero=>grind[exec]
 |succ n=>
  rw[exec]at h
  cases hx:exec E n a tm J with
  |none=>rw[hx]at h;cases h
  |some q=>
   rw[hx]at h
   obtain⟨e1,KI,σ1⟩:=q
   refine⟨n,e1,KI,σ1,hx,?_⟩
   cases e1 with
   |normal=>cases h;exact hq
   |exit j=>cases h;exact hq
   |ret=>cases h;exact hq
def aoj:bM E .skip tm J Q=Q .normal tm J:=by
 refine propext ⟨?_,YM⟩;rintro⟨n,e,tm',J',h,hq⟩;cases n with
 |zero=>grind[exec]
 |succ n=>grind[exec]
def aok(i:Nat):bM E (.exit i) tm J Q=Q (.exit i) tm J:=by
 refine propext ⟨?_,aiT⟩;rintro⟨n,e,tm',J',h,hq⟩;cases n with
 |zero=>grind[exec]
 |succ n=>grind[exec]
def atD:bM E .ret tm J Q=Q .ret tm J:=by
 refine propext ⟨?_,anG⟩;rintro⟨n,e,tm',J',h,hq⟩;cases n with
 |zero=>grind[exec]
 |succ n=>grind[exec]
def ifV(v:V)(P:Bool->Prop):Prop:=match v with|.c (.bool t)=>P t|_=>False
def aol(x:O)(a b:AC):bM E (.cond x a b) tm J Q=ifV (x.ev tm) λt=>bM E (bif t then a else b) tm J Q:=by
 refine propext ⟨?_,λh=>?_⟩
 .rintro⟨n,e,tm',J',h,hq⟩;cases n with
  |zero=>grind[exec]
  |succ n=>
   simp only[exec,adP]at h
   split at h
   .next t e=>rw[e];exact⟨n,_,_,_,h,hq⟩
   .cases h
 .unfold ifV at h;grind[aiU]
def atE(a b:AC):bM E (bif true then a else b) tm J Q=bM E a tm J Q:=rfl
def atF(a b:AC):bM E (bif false then a else b) tm J Q=bM E b tm J Q:=rfl
def aom(a b:AC):bM E (bif !true then a else b) tm J Q=bM E b tm J Q:=rfl
def aon(a b:AC):bM E (bif !false then a else b) tm J Q=bM E a tm J Q:=rfl
def ajv(n:Nat)(b:AC)(r:List (Nat×Option (Nat×Bool))):bM E (AF.body ⟨n,b,r⟩) tm J Q=bM E b tm J Q:=rfl
def ajw(P:Bool->Prop):ifV (.c (.bool true)) P=P true:=rfl
def ags(P:Bool->Prop):ifV (.c (.bool false)) P=P false:=rfl
def aoo(b:Bool)(P:Bool->Prop):ifV (.c (.bool (!b))) P=ifV (.c (.bool b)) λt=>P (!t):=rfl
def aH{p:Prop}[Decidable p]{P:Bool->Prop}(h1:p->P true)(h2:¬p->P false):ifV (.c (.bool (decide p))) P:=by
 show P (decide p);by_cases h:p
 .grind
 grind
def axW{b:Bool}{P:Bool->Prop}(h1:b=true->P true)(h2:b=false->P false):ifV (.c (.bool b)) P:=by
 show P b;cases b with
 |true=>grind
 |false=>grind
def tick:Prop:=∀n:Nat,n=n
def agt:tick=True:=propext ⟨λ_=>trivial,λ_ _=>rfl⟩
@[congr] theorem awE {z:Prop} {v v' : V} {P:Bool→Prop} (hz:tick=z) (h:v=v'):ifV v P=ifV v' P:=by rw [h]
@[congr] theorem awF {z:Prop} {v v' : Option V} {P:V→Prop} (hz:tick=z) (h:v=v'):Dw v P=Dw v' P:=by rw [h]
@[congr] theorem atG {z:Prop} {c:AC} {tm tm' : Tr V} {J J' : St} {Q:AX→Tr V→St→Prop} (hz:tick=z) (h:tm=tm') (h2:J=J'):bM E c tm J Q=bM E c tm' J' Q:=by rw [h,h2]
@[congr] theorem arv {z:Prop} {c:List AO} {tm tm' : Tr V} {J J' : St} {Q:Tr V→St→Prop} (hz:tick=z) (h:tm=tm') (h2:J=J'):wpOps E c tm J Q=wpOps E c tm' J' Q:=by rw [h,h2]
@[congr] theorem awH {z:Prop} {c:AO} {tm tm' : Tr V} {J J' : St} {Q:V→St→Prop} (hz:tick=z) (h:tm=tm') (h2:J=J'):wpG E c tm J Q=wpG E c tm' J' Q:=by rw [h,h2]
@[congr] theorem atH {z:Prop} {c:xu} {tm tm' : Tr V} {J J' : St} {Q:V→St→Prop} (hz:tick=z) (h:tm=tm') (h2:J=J'):wpOp E c tm J Q=wpOp E c tm' J' Q:=by rw [h,h2]
@[congr] theorem arw {z:Prop} {f:Nat} {a a' : List V} {J J' : St} {Q:V→St→Prop} (hz:tick=z) (h:a=a') (h2:J=J'):aC E f a J Q=aC E f a' J' Q:=by rw [h,h2]
@[congr] theorem awI {z:Prop} {dA bP:Tr V} {qs:List DO} {J J' : St} {res res' : List Rs} {pd pd' : List jd} {K:St→List Rs→List jd→Prop} (hz:tick=z) (h2:J=J') (h3:res=res') (h4:pd=pd'):vY dA bP qs J res pd K=vY dA bP qs J' res' pd' K:=by grind
@[congr] theorem awJ {z:Prop} {pt:List (List Nat)} {dA bP:Tr V} {d:Dr} {J J' : St} {res res' : List Rs} {pd pd' : List jd} {K:Tr V→St→Prop} (hz:tick=z) (h2:J=J') (h3:res=res') (h4:pd=pd'):YP E pt dA bP d J res pd K=YP E pt dA bP d J' res' pd' K:=by grind
@[congr] theorem awO {z:Prop} {J J' : St} {pd pd' : List jd} (hz:tick=z) (h:J=J') (h2:pd=pd'):agn J pd=agn J' pd':=by rw [h,h2]
@[congr] theorem atI {z:Prop} {i i' : Nat} {o:AO} {tm:Tr V} {v:V} {g:Bool} {nm:Option Nat} (hz:tick=z) (h:i=i'):jd.mk i o tm v g nm=jd.mk i' o tm v g nm:=by rw [h]
@[congr] theorem arx {z:Prop} {J J' : St} {p:jd} (hz:tick=z) (h:J=J'):again J p=again J' p:=by rw [h]
@[congr] theorem awP {z:Prop} {dA bP:Tr V} {res:List Rs} {us us' os:List Nat} (hz:tick=z) (h:us=us'):Pq dA bP res us os=Pq dA bP res us' os:=by rw [h]
@[congr] theorem atJ {z:Prop} {bP:Tr V} {res:List Rs} {us us' : List Nat} (hz:tick=z) (h:us=us'):KD bP res us=KD bP res us':=by rw [h]
@[congr] theorem awQ {z:Prop} {res:List Rs} {u u' : Nat} (hz:tick=z) (h:u=u'):fnd res u=fnd res u':=by rw [h]
@[congr] theorem arz {z:Prop} {dA tm:Tr V} {os os' : List Nat} (hz:tick=z) (h:os=os'):Gw dA tm os=Gw dA tm os':=by rw [h]
@[congr] theorem atK {z:Prop} {g:Option (Nat×Bool)} {tm:Tr V} {A B:Prop} (hz:tick=z):Dj g tm A B=Dj g tm A B:=rfl
@[congr] theorem awR {z:Prop} {v v' : V} {b:Bool} {A B:Prop} (hz:tick=z) (h:v=v'):gsV v b A B=gsV v' b A B:=by rw [h]
@[congr] theorem axX {z:Prop} {g:Option (Nat×Bool)} {dA bP:Tr V} {res:List Rs} {us os:List Nat} {J:St} {pd:List jd} {i:Nat} {d:Option Nat} {op:xu} {l:List DO} {K:St→List Rs→List jd→Prop} (hz:tick=z):qR g dA bP res us os J pd i d op l K=qR g dA bP res us os J pd i d op l K:=rfl
def aop(E:Env)(d:Option Nat)(g:Option (Nat×Bool))(op:xu)(tm:Tr V)(J:St)(K:V->St->Prop):wpG E ⟨d,g,op⟩ tm J K=Dj g tm (wpOp E op tm J K) (K .tnil J):=rfl
def atL(x:O)(K:V->St->Prop):wpOp E (.mov x) tm J K=Dw (some (x.ev tm)) λv=>K v J:=rfl
def atM(b:AC):Wp E b Q .normal tm J=bM E b tm J Q:=rfl
def atN(b:AC)(i:Nat):Wp E b Q (.exit i) tm J=Q (.exit i) tm J:=rfl
def atO(b:AC):Wp E b Q .ret tm J=Q .ret tm J:=rfl
def atP(i:Nat):aiV i Q .normal tm J=Q .normal tm J:=rfl
def atQ(i j:Nat):aiV i Q (.exit j) tm J=Q (bif Nat.beq j i then .normal else .exit j) tm J:=rfl
def atS(i:Nat):aiV i Q .ret tm J=Q .ret tm J:=rfl
variable (I:Nat→Tr V→St→Prop) (m:Nat) (res:List (Nat×Option (Nat×Bool))) (K:V→St→Prop)
def atT:anH I m Q .normal tm J=∃m',m'<m/\I m' tm J:=rfl
def atU(i:Nat):anH I m Q (.exit i) tm J=Q (.exit i) tm J:=rfl
def atV:anH I m Q .ret tm J=Q .ret tm J:=rfl
def aoq:abH res K .normal tm J=Dw (result tm J res) λv=>K v J:=by unfold abH Dw;grind
def atW:abH res K .ret tm J=Dw (result tm J res) λv=>K v J:=by unfold abH Dw;grind
end
def ajx(p q:Rat):decide (mW p q<0)=decide (p<q):=by
 by_cases h:p<q
 .rw[aq h,aq];exact su.mpr h
 .rw[af h,af];exact λe=>h (su.mp e)
def ajy(tm:Tr V)(d:Nat)(v:V):Tr.get (Gh tm (some d) v) d=some v:=by grind[Gh,Tr.vI]
def atX(tm:Tr V)(d j:Nat)(v:V)(h:j≠d):Tr.get (Gh tm (some d) v) j=Tr.get tm j:=by grind[Gh,Tr.vI]
def abS(tm:Tr V)(J:St):qU tm J []=some .tnil:=rfl
def ajz(tm:Tr V)(J:St)(t:Nat)(r:List (Nat×Option (Nat×Bool))):qU tm J ((t,none)::r)=match tm.get t,qU tm J r with|some v,some w=>some (.aV v w)|_,_=>none:=rfl
def ajA(tm:Tr V)(J:St)(t n:Nat)(g:Bool)(r:List (Nat×Option (Nat×Bool))):qU tm J ((t,some (n,g))::r)=match(match r8 tm t with|.c (.ptr b o)=>ld J.h b o n g|_=>none),qU tm J r with|some v,some w=>some (.aV v w)|_,_=>none:=rfl
def Fr.new1{J:St}{h:Tr Bk}{n:Nat}{k:Bk}(hf:Fr J ⟨h,n⟩):Fr J ⟨hset h n k,n+1⟩:=Fr.new hf k
def Fr.set1{J:St}{h:Tr Bk}{n b:Nat}{k:Bk}(hf:Fr J ⟨h,n⟩)(h1:J.aj<=b)(h2:b<n):Fr J ⟨hset h b k,n⟩:=Fr.set hf h1 h2 k
def au{h:Tr Bk}{b:Nat}{k:Bk}(e:h b=some k)(o n:Nat)(g:Bool):ld h b o n g=bif k.rd then yZ k.cells o n g else none:=by unfold ld;rw[e]
def aG{h:Tr Bk}{b:Nat}{k:Bk}(e:h b=some k)(o:Nat)(vs:List B):sto h b o vs=match bif k.pl then wI k.cells o vs else none with|some l=>some (hset h b ⟨l,k.opn⟩)|none=>none:=by grind[sto]
def plo(o:Option (Nat×Nat)):Bool:=match o with|some (0,_)=>false|_=>true
def X7(o:Option (Nat×Nat)):Bool:=match o with|some (0,t)=>Nat.beq t 1|_=>true
def atY(k:Bk):k.pl=plo k.opn:=rfl
def Qc(k:Bk):k.rd=X7 k.opn:=rfl
def ajB:plo none=true:=rfl
def ajC:X7 none=true:=rfl
def arA(e t:Nat)(h:e≠0):plo (some (e,t))=true:=by cases e with|zero=>omega|succ e=>rfl
def Bd(e t:Nat)(h:e≠0):X7 (some (e,t))=true:=by cases e with|zero=>omega|succ e=>rfl
def axY:X7 (some (0,1))=true:=rfl
def ajD(k:IntKind)(n:Int):B.kn (.int k n)=true:=rfl
theorem vK(b:Bool):B.kn (.bool b)=true:=rfl
theorem Am(s:ByteArray):B.kn (.str s)=true:=rfl
def atZ(b o:Nat):B.kn (.ptr b o)=true:=rfl
def aor:B.kn .VU=true:=rfl
def axZ(b o n:Nat)(c:Cap):B.kn (.sl b o n c)=true:=rfl
def aot:B.kn .aO=true:=rfl
def ax0(b:Nat):B.kn (.mp b)=true:=rfl
def HL.kn{h:Tr Bk}{e:Nat}{v:B}{n:Nat}{G:Nat->List B}(hl:HL h e v n G):v.kn=true:=by rcases hl with⟨-,rfl⟩|⟨b,o,c,rfl,-⟩<;>rfl
def HC.kn{h:Tr Bk}{v:B}{n:Nat}{G:Nat->B}(hl:HC h v n G):v.kn=true:=by rcases hl with⟨-,rfl⟩|⟨b,o,c,rfl,-⟩<;>rfl
def ax1(x:B)(l:List B)(o n:Nat):yZ (x::l) o n true=bif Nat.beq (((x::l).drop o).take n).length n&&(((x::l).drop o).take n).all B.kn then some (.agg (((x::l).drop o).take n))else none:=rfl
def ax2(x:B)(l:List B)(o n:Nat):yZ (x::l) o n false=match(x::l).drop o with|x::_=>bif x.kn then some (.c x)else none|[]=>none:=rfl
def ax3(x:B)(l vs:List B):wI (x::l) 0 vs=bif Nat.ble vs.length (x::l).length then some (vs++(x::l).drop vs.length)else none:=by rw[wI]
def ax4(x:B)(l:List B)(o:Nat)(vs:List B):wI (x::l) (o+1) vs=match wI l o vs with|some r=>some (x::r)|none=>none:=by rfl
def ajE(a b:Nat):(Int.ofNat a=Int.ofNat b)=(a=b):=propext ⟨Int.ofNat.inj,λe=>by rw[e]⟩
def eq_neg(a b:Nat):(Int.ofNat a=Int.negSucc b)=False:=by simp
def ax5[h:Decidable True]: @decide True h=true:=by simp
def ax6[h:Decidable False]: @decide False h=false:=by simp
attribute [go_sem] agt aom aon atE atF ajv agi wpOps_cons ai3 as1 o_load anP anQ anR as2 axD as3 as4 as5 as6 axE axF axG axH axI axJ axK as7 as8 axL ai5 axM anS anT as9 axO axN axP anU DW ata abr axQ anO agh atb anV axR atc DX rep axS anW atd aA0 aA1 af4 anM af5 af6 af7 af8 af9 aga agb agc agd V.cells anN axC ai2 asZ ay aA2 aA3 cy di Bool.and_true Bool.true_and List.drop_succ_cons gg fq cH bL List.length_nil Nat.reduceAdd ck bO Y2 UC nV CY ak du gn fi List.map_cons List.map_nil result ai1 aA an3 an4 anZ atm an7 an9 aje ajg aji ato atq att ajk ajm atv atx aoa ajo aoc atz ajq aoe aog agm an0 an1 ate ai7 agj ai8 anX ai9 agk abP aja agl ai6 an2 ajb atn an8 ajf ajh ajj atp atr atu ajl ajn atw aty aob ajp aod atA ajr aof aoh abR Y5 agq an5 axT abQ agp List.contains_cons List.contains_nil Nat.reduceBEq Bool.or_false Bool.or_true Bool.false_or Bool.true_or ce eQ List.getD_cons_zero List.getD_cons_succ am and_true aop atf atg ath ati atj atl anY axU an6 atL atC axV seq_eq aju aoj aok atD aol ajw ags aoo atM atN atO atP atQ atS atT atU atV aoq atW ajx ajD vK Am atZ aor axZ aot ax0 ax1 ax2 ax3 ax4 ajE eq_neg ax5 ax6 atY Qc ajB ajC arA Bd axY ajy atX abS ajz ajA axz abK abL ai0 af2 axA axB asU aiZ axx asT YZ af0 YX asQ YV asR YW afZ axy anK adV asV Y1 abM asW asX anL Y0
end Go.Proofs.Xe
