import Derived.Test.YthkggcakedkboaaGreatDoorYa10
import Derived.Attr
set_option linter.all false
namespace Go.Proofs.Xe
open Go.RowKit Go.Proofs.Ins
noncomputable def aak(tm:Tr V):List Nat->Tr V
 |[]=>tm
 |d::l=>(aak tm l).set d none
def Jr(tm:Tr V):∀ds,Ap tm ds=some (aak tm ds)
 |[]=>rfl
 |d::l=>by unfold Ap;rw[Jr tm l];rfl
theorem acd(tm:Tr V)(j:Nat):∀ds:List Nat,ds.contains j=false->(aak tm ds).get j=tm.get j
 |[],_=>rfl
 |d::l,h=>by rw[List.contains_cons,Bool.or_eq_false_iff]at h;show((aak tm l).set d none).get j=_;rw[Tr.uj,ae (by simpa using h.1),acd tm j l h.2]
def ahi(tm:Tr V)(ds:List Nat)(j:Nat)(h:ds.contains j=false):Tr.ah (aak tm ds) j=Tr.ah tm j:=by grind[Tr.ah,acd]
def fnd:List Rs->Nat->Option Rs
 |[],_=>none
 |r::l,u=>bif Nat.beq r.i u then some r else fnd l u
def Xd(u:Nat):∀l:List Rs,l.find? (λr=>Nat.beq r.i u)=fnd l u
 |[]=>rfl
 |r::l=>by rw[List.find?_cons,fnd,Xd u l];cases Nat.beq r.i u<;>rfl
noncomputable def tmO:Option (Tr V)->Option Rs->Option (Tr V)
 |some tm,some r=>some (EJ tm r.d r.v)
 |_,_=>none
def ahj(bM:Tr V)(res:List Rs):Ji bM res []=some bM:=rfl
def aeM(bM:Tr V)(res:List Rs)(u:Nat)(us:List Nat):Ji bM res (u::us)=tmO (Ji bM res us) (fnd res u):=by
 rw[Ji,Xd];cases Ji bM res us with
 |none=>rfl
 |some tm=>
  cases fnd res u with
  |none=>rfl
  |some r=>show Jh tm r.d r.v=_;rw[Ld];rfl
def ahk(tm:Tr V)(i:Nat)(d:Option Nat)(v:V):tmO (some tm) (some ⟨i,d,v⟩)=some (EJ tm d v):=rfl
def al1(i:Nat)(d:Option Nat)(v:V)(l:List Rs):fnd (⟨i,d,v⟩::l) i=some ⟨i,d,v⟩:=by unfold fnd;simp
def ahl(i u:Nat)(d:Option Nat)(v:V)(l:List Rs)(h:i≠u):fnd (⟨i,d,v⟩::l) u=fnd l u:=by grind[fnd,NU]
def aeN(dI tm:Tr V):Fz dI tm []=some tm:=rfl
def aal(dI tm:Tr V)(t:Nat)(l:List Nat):Fz dI tm (t::l)=match Fz dI tm l with|some tm=>some (EJ tm (some t) (dI.ah t))|none=>none:=by rfl
def aqQ(dI bM:Tr V)(res:List Rs)(us os:List Nat):Nk dI bM res us os=match Ji bM res us with|some tm=>Fz dI tm os|none=>none:=rfl
def ahm(bM:Tr V):KF bM []=some bM:=rfl
def aeO(bM:Tr V)(i:Nat)(d:Option Nat)(v:V)(l:List Rs):KF bM (⟨i,d,v⟩::l)=match KF bM l with|some tm=>some (EJ tm d v)|none=>none:=by grind[KF,Ld]
def BI(g:Option (Nat×Bool))(tm:Tr V)(A B:Prop):Prop:=match gate g tm with|some true=>A|some false=>B|none=>False
def gsV(v:V)(b:Bool)(A B:Prop):Prop:=match v with|.c (.bool c)=>(bif c==b then A else B)|.tnil=>B|_=>False
def aqR(tm:Tr V)(A B:Prop):BI none tm A B=A:=rfl
def aqS(t:Nat)(b:Bool)(tm:Tr V)(A B:Prop):BI (some (t,b)) tm A B=gsV (tm.ah t) b A B:=by grind[BI,gsV,gate]
def aqT(A B:Prop):gsV (.c (.bool true)) true A B=A:=rfl
def aqU(A B:Prop):gsV (.c (.bool true)) false A B=B:=rfl
def aqV(A B:Prop):gsV (.c (.bool false)) true A B=B:=rfl
def aqW(A B:Prop):gsV (.c (.bool false)) false A B=A:=rfl
def al2(b:Bool)(A B:Prop):gsV .tnil b A B=B:=rfl
def Uj{p:Prop}[Decidable p]{A B:Prop}(h1:p->A)(h2:¬p->B):gsV (.c (.bool (decide p))) true A B:=by
 by_cases h:p
 .rw[bh h];exact h1 h
 .rw[ap h];exact h2 h
def Xf{p:Prop}[Decidable p]{A B:Prop}(h1:p->B)(h2:¬p->A):gsV (.c (.bool (decide p))) false A B:=by
 by_cases h:p
 .rw[bh h];exact h1 h
 .rw[ap h];exact h2 h
def uY(dI bM:Tr V)(qs:List DO)(σ:St)(res:List Rs)(pd:List iP)(K:St->List Rs->List iP->Prop):Prop:=
 match xZ dI bM qs σ res pd with
 |some (σ,res,pd)=>K σ res pd
 |none=>False
def al3(dI bM:Tr V)(σ:St)(res:List Rs)(pd:List iP)(K:St->List Rs->List iP->Prop):uY dI bM [] σ res pd K=K σ res pd:=rfl
section
variable (E:Env) (pt:List (List Nat)) (dI bM:Tr V) (σ:St) (res:List Rs) (pd:List iP)
def qc(i:Nat)(us os:List Nat)(d:Option Nat)(g:Option (Nat×Bool))(op:vT)(l:List DO)(K:St->List Rs->List iP->Prop)(h:op.kind=.q):
  uY dI bM (⟨i,us,os,⟨d,g,op⟩⟩::l) σ res pd K=match Nk dI bM res us os with
   |some tm=>BI g tm (wpOp E op tm σ λv _=>uY dI bM l σ (⟨i,d,v⟩::res) (⟨i,⟨d,g,op⟩,tm,v,true,none⟩::pd) K) (uY dI bM l σ (⟨i,d,.tnil⟩::res) (⟨i,⟨d,g,op⟩,tm,.tnil,false,none⟩::pd) K)
   |none=>False:=by
 unfold uY BI
 rw[xZ]
 dsimp only
 cases Nk dI bM res us os with
 |none=>rfl
 |some tm=>
  dsimp only
  have hc:∀g l,op≠.call g l:=λg l e=>by rw[e]at h;cases h
  grind[iF,GN]
def aeP(i:Nat)(us os:List Nat)(d:Option Nat)(g:Option (Nat×Bool))(z:List B)(l:List DO)(K:St->List Rs->List iP->Prop):
  uY dI bM (⟨i,us,os,⟨d,g,.alloc z⟩⟩::l) σ res pd K=match Nk dI bM res us os with
   |some tm=>BI g tm (uY dI bM l ⟨hset σ.h σ.aj ⟨z,none⟩,σ.aj+1⟩ (⟨i,d,.c (.ptr σ.aj 0)⟩::res) (⟨i,⟨d,g,.alloc z⟩,tm,.c (.ptr σ.aj 0),true,some σ.aj⟩::pd) K)
    (uY dI bM l σ (⟨i,d,.tnil⟩::res) (⟨i,⟨d,g,.alloc z⟩,tm,.tnil,false,none⟩::pd) K)
   |none=>False:=by
 unfold uY BI
 rw[xZ]
 dsimp only
 cases Nk dI bM res us os with
 |none=>rfl
 |some tm=>
  grind[vT.kind,nH,jS]
def al4(i:Nat)(us os:List Nat)(d:Option Nat)(g:Option (Nat×Bool))(x:O)(l:List DO)(K:St->List Rs->List iP->Prop):
  uY dI bM (⟨i,us,os,⟨d,g,.box x⟩⟩::l) σ res pd K=match Nk dI bM res us os with
   |some tm=>BI g tm (match(x.ev tm).cells with
    |some z=>uY dI bM l ⟨hset σ.h σ.aj ⟨z,none⟩,σ.aj+1⟩ (⟨i,d,.c (.ptr σ.aj 0)⟩::res) (⟨i,⟨d,g,.box x⟩,tm,.c (.ptr σ.aj 0),true,some σ.aj⟩::pd) K
    |none=>False) (uY dI bM l σ (⟨i,d,.tnil⟩::res) (⟨i,⟨d,g,.box x⟩,tm,.tnil,false,none⟩::pd) K)
   |none=>False:=by
 unfold uY BI
 rw[xZ]
 dsimp only
 cases Nk dI bM res us os with
 |none=>rfl
 |some tm=>
  grind[vT.kind,nH,jS]
def al5(i:Nat)(us os:List Nat)(d:Option Nat)(g:Option (Nat×Bool))(e n:Nat)(z:List B)(ps:List (Nat×Nat×O))(l:List DO)(K:St->List Rs->List iP->Prop)(hn:n*e<=16777216)(hn2:n<=16777216):
  uY dI bM (⟨i,us,os,⟨d,g,.bsl e n z ps⟩⟩::l) σ res pd K=match Nk dI bM res us os with
   |some tm=>BI g tm (match BZ (rep z n) (ps.map λp=>(p.1,p.2.1,p.2.2.ev tm))with
    |some c=>uY dI bM l ⟨hset σ.h σ.aj ⟨c,none⟩,σ.aj+1⟩ (⟨i,d,.c (.sl σ.aj 0 n (.ex n))⟩::res) (⟨i,⟨d,g,.bsl e n z ps⟩,tm,.c (.sl σ.aj 0 n (.ex n)),true,some σ.aj⟩::pd) K
    |none=>False) (uY dI bM l σ (⟨i,d,.tnil⟩::res) (⟨i,⟨d,g,.bsl e n z ps⟩,tm,.tnil,false,none⟩::pd) K)
   |none=>False:=by
 unfold uY BI
 rw[xZ]
 dsimp only
 cases Nk dI bM res us os with
 |none=>rfl
 |some tm=>
  grind[vT.kind,nH,vW,jS]
def agn(σ:St):List iP->Prop
 |[]=>True
 |p::l=>again σ p=true/\agn σ l
theorem Uk(σ:St):∀l:List iP,(l.all (again σ)=true)=agn σ l
 |[]=>by simp[agn]
 |p::l=>by rw[cO,af,Uk σ l];rfl
def al6(σ:St):agn σ []=True:=rfl
def ahn(σ:St)(p:iP)(l:List iP):agn σ (p::l)=(again σ p=true/\agn σ l):=rfl
def aeQ(l:List Nat):List iP->List iP
 |[]=>[]
 |p::pd=>bif l.contains p.i then aeQ l pd else p::aeQ l pd
theorem aho(l:List Nat):∀pd:List iP,pd.filter (λp=>!(l.contains p.i))=aeQ l pd
 |[]=>rfl
 |p::pd=>by rw[List.filter_cons,aeQ,aho l pd];cases l.contains p.i<;>rfl
def al7(qs:List DO)(Q:Tr V->St->Prop):WT E pt dI bM (.fin qs) σ res pd Q=uY dI bM qs σ res pd λσ res pd=>agn σ pd/\(match KF bM res with|some tm=>Q tm σ|none=>False):=by grind[WT,uY,Uk]
def al8(qs:List DO)(i:Nat)(us os:List Nat)(d:Option Nat)(g:Option (Nat×Bool))(op:vT)(r:Dr)(Q:Tr V->St->Prop):
  WT E pt dI bM (.act qs ⟨i,us,os,⟨d,g,op⟩⟩ r) σ res pd Q=uY dI bM qs σ res pd λσ res pd=>agn σ pd/\(match Nk dI bM res us os with
   |some tm=>wpG E ⟨d,g,op⟩ tm σ λv σ'=>WT E pt dI bM r σ' (⟨i,d,v⟩::res) (aeQ (pt.getD i []) pd) Q
   |none=>False):=by
 grind[WT,uY,Uk,aho]
def ahp(b:B):aef b b=b.kn:=by
 cases b<;>simp[aef,B.kn]
 case int k n=>cases n<;>simp[eqI]
 case sl b o n c=>cases c<;>simp[eqC]
def aam:∀l:List B,Nj l l=l.all B.kn
 |[]=>rfl
 |b::l=>by rw[cO];unfold Nj;rw[ahp b,aam l]
def al9(l:List B):eqV (.agg l) (.agg l)=l.all B.kn:=aam l
def au2(b:B):eqV (.c b) (.c b)=b.kn:=ahp b
def je(i:Nat)(d:Option Nat)(g9:Option (Nat×Bool))(op:vT)(tm:Tr V)(v:V)(h:op.kind=.q)(h2:op.looks=false):again σ ⟨i,⟨d,g9,op⟩,tm,v,true,none⟩=true:=by grind[again]
def aan(i:Nat)(d:Option Nat)(g9:Option (Nat×Bool))(n:Nat)(g:Bool)(x:O)(tm:Tr V)(v:V):again σ ⟨i,⟨d,g9,.load n g x⟩,tm,v,true,none⟩=match(match x.ev tm with|.c (.ptr b o)=>ld σ.h b o n g|_=>none)with|some u=>eqV u v|none=>false:=by rfl
def Xg(i:Nat)(d:Option Nat)(g9:Option (Nat×Bool))(z:List B)(tm:Tr V)(v:V)(b:Nat):again σ ⟨i,⟨d,g9,.alloc z⟩,tm,v,true,some b⟩=match σ.h b with|some ⟨c,none⟩=>Nj c z|_=>false:=by rfl
def aeR(i:Nat)(d:Option Nat)(g9:Option (Nat×Bool))(e n:Nat)(z:List B)(ps:List (Nat×Nat×O))(tm:Tr V)(v:V)(b:Nat)(hn:n*e<=16777216)(hn2:n<=16777216):again σ ⟨i,⟨d,g9,.bsl e n z ps⟩,tm,v,true,some b⟩=match BZ (rep z n) (ps.map λp=>(p.1,p.2.1,p.2.2.ev tm))with|some z=>(match σ.h b with|some ⟨c,none⟩=>Nj c z|_=>false)|none=>false:=by grind[again,vT.kind,nH,vW]
end
def ama(σ:St)(i:Nat)(o:AO)(tm:Tr V)(v:V)(nm:Option Nat):again σ ⟨i,o,tm,v,false,nm⟩=true:=rfl
section
def E0:Env:=⟨λ_=>none,λ_ _ _=>none⟩
variable (dI bM tm:Tr V) (σ:St) (res:List Rs) (pd:List iP) (i:Nat) (us os:List Nat) (d:Option Nat) (g9:Option (Nat×Bool)) (l:List DO) (K:St→List Rs→List iP→Prop) (v:V)
def qR(g:Option (Nat×Bool))(dI bM:Tr V)(res:List Rs)(us os:List Nat)(σ:St)(pd:List iP)(i:Nat)(d:Option Nat)(op:vT)(l:List DO)(K:St->List Rs->List iP->Prop):Prop:=match Nk dI bM res us os with
 |some tm=>BI g tm (wpOp E0 op tm σ λv _=>uY dI bM l σ (⟨i,d,v⟩::res) (⟨i,⟨d,g,op⟩,tm,v,true,none⟩::pd) K) (uY dI bM l σ (⟨i,d,.tnil⟩::res) (⟨i,⟨d,g,op⟩,tm,.tnil,false,none⟩::pd) K)
 |none=>False
def au3(g:Option (Nat×Bool))(dI bM:Tr V)(res:List Rs)(us os:List Nat)(σ:St)(pd:List iP)(i:Nat)(d:Option Nat)(op:vT)(l:List DO)(K:St->List Rs->List iP->Prop):qR g dI bM res us os σ pd i d op l K=match Nk dI bM res us os with
 |some tm=>BI g tm (wpOp E0 op tm σ λv _=>uY dI bM l σ (⟨i,d,v⟩::res) (⟨i,⟨d,g,op⟩,tm,v,true,none⟩::pd) K) (uY dI bM l σ (⟨i,d,.tnil⟩::res) (⟨i,⟨d,g,op⟩,tm,.tnil,false,none⟩::pd) K)
 |none=>False:=rfl
def aqX(x:O):uY dI bM (⟨i,us,os,⟨d,g9,.mov x⟩⟩::l) σ res pd K=qR g9 dI bM res us os σ pd i d (.mov x) l K:=qc E0 _ _ _ _ _ _ _ _ _ _ _ _ _ rfl
def aqY(x:O):again σ ⟨i,⟨d,g9,.mov x⟩,tm,v,true,none⟩=true:=je _ _ _ _ _ _ _ rfl rfl
def amb(c a b:O):uY dI bM (⟨i,us,os,⟨d,g9,.pick c a b⟩⟩::l) σ res pd K=qR g9 dI bM res us os σ pd i d (.pick c a b) l K:=qc E0 _ _ _ _ _ _ _ _ _ _ _ _ _ rfl
def amc(c a b:O):again σ ⟨i,⟨d,g9,.pick c a b⟩,tm,v,true,none⟩=true:=je _ _ _ _ _ _ _ rfl rfl
def amd(n:Nat)(g:Bool)(x:O):uY dI bM (⟨i,us,os,⟨d,g9,.load n g x⟩⟩::l) σ res pd K=qR g9 dI bM res us os σ pd i d (.load n g x) l K:=qc E0 _ _ _ _ _ _ _ _ _ _ _ _ _ rfl
def ahq(n:Nat)(x:O):uY dI bM (⟨i,us,os,⟨d,g9,.BX n x⟩⟩::l) σ res pd K=qR g9 dI bM res us os σ pd i d (.BX n x) l K:=qc E0 _ _ _ _ _ _ _ _ _ _ _ _ _ rfl
def ahr(n:Nat)(x:O):again σ ⟨i,⟨d,g9,.BX n x⟩,tm,v,true,none⟩=true:=je _ _ _ _ _ _ _ rfl rfl
def ahs(o n:Nat)(g:Bool)(x:O):uY dI bM (⟨i,us,os,⟨d,g9,.field o n g x⟩⟩::l) σ res pd K=qR g9 dI bM res us os σ pd i d (.field o n g x) l K:=qc E0 _ _ _ _ _ _ _ _ _ _ _ _ _ rfl
def aht(o n:Nat)(g:Bool)(x:O):again σ ⟨i,⟨d,g9,.field o n g x⟩,tm,v,true,none⟩=true:=je _ _ _ _ _ _ _ rfl rfl
def ahu(e:Nat)(x j:O):uY dI bM (⟨i,us,os,⟨d,g9,.Fp e x j⟩⟩::l) σ res pd K=qR g9 dI bM res us os σ pd i d (.Fp e x j) l K:=qc E0 _ _ _ _ _ _ _ _ _ _ _ _ _ rfl
def ahv(e:Nat)(x j:O):again σ ⟨i,⟨d,g9,.Fp e x j⟩,tm,v,true,none⟩=true:=je _ _ _ _ _ _ _ rfl rfl
def aqZ(n:Nat)(x:O):uY dI bM (⟨i,us,os,⟨d,g9,.ext n x⟩⟩::l) σ res pd K=qR g9 dI bM res us os σ pd i d (.ext n x) l K:=qc E0 _ _ _ _ _ _ _ _ _ _ _ _ _ rfl
def aq0(n:Nat)(x:O):again σ ⟨i,⟨d,g9,.ext n x⟩,tm,v,true,none⟩=true:=je _ _ _ _ _ _ _ rfl rfl
def aq1(b:BinOp)(x y:O):uY dI bM (⟨i,us,os,⟨d,g9,.bin b x y⟩⟩::l) σ res pd K=qR g9 dI bM res us os σ pd i d (.bin b x y) l K:=qc E0 _ _ _ _ _ _ _ _ _ _ _ _ _ rfl
def aq2(b:BinOp)(x y:O):again σ ⟨i,⟨d,g9,.bin b x y⟩,tm,v,true,none⟩=true:=je _ _ _ _ _ _ _ rfl rfl
def aq3(p:Bool)(x y:O):uY dI bM (⟨i,us,os,⟨d,g9,.eqb p x y⟩⟩::l) σ res pd K=qR g9 dI bM res us os σ pd i d (.eqb p x y) l K:=qc E0 _ _ _ _ _ _ _ _ _ _ _ _ _ rfl
def aq4(p:Bool)(x y:O):again σ ⟨i,⟨d,g9,.eqb p x y⟩,tm,v,true,none⟩=true:=je _ _ _ _ _ _ _ rfl rfl
def ahw(p:Bool)(x y:O):uY dI bM (⟨i,us,os,⟨d,g9,.Fv p x y⟩⟩::l) σ res pd K=qR g9 dI bM res us os σ pd i d (.Fv p x y) l K:=qc E0 _ _ _ _ _ _ _ _ _ _ _ _ _ rfl
def ahx(p:Bool)(x y:O):again σ ⟨i,⟨d,g9,.Fv p x y⟩,tm,v,true,none⟩=true:=je _ _ _ _ _ _ _ rfl rfl
def ahy(p:Bool)(x y:O):uY dI bM (⟨i,us,os,⟨d,g9,.Hr p x y⟩⟩::l) σ res pd K=qR g9 dI bM res us os σ pd i d (.Hr p x y) l K:=qc E0 _ _ _ _ _ _ _ _ _ _ _ _ _ rfl
def ahz(p:Bool)(x y:O):again σ ⟨i,⟨d,g9,.Hr p x y⟩,tm,v,true,none⟩=true:=je _ _ _ _ _ _ _ rfl rfl
def aq5(k:Nat)(p:Bool)(x:O):uY dI bM (⟨i,us,os,⟨d,g9,.nil k p x⟩⟩::l) σ res pd K=qR g9 dI bM res us os σ pd i d (.nil k p x) l K:=qc E0 _ _ _ _ _ _ _ _ _ _ _ _ _ rfl
def aq6(k:Nat)(p:Bool)(x:O):again σ ⟨i,⟨d,g9,.nil k p x⟩,tm,v,true,none⟩=true:=je _ _ _ _ _ _ _ rfl rfl
def aq7(x:O):uY dI bM (⟨i,us,os,⟨d,g9,.not x⟩⟩::l) σ res pd K=qR g9 dI bM res us os σ pd i d (.not x) l K:=qc E0 _ _ _ _ _ _ _ _ _ _ _ _ _ rfl
def aq8(x:O):again σ ⟨i,⟨d,g9,.not x⟩,tm,v,true,none⟩=true:=je _ _ _ _ _ _ _ rfl rfl
def ame(k:IntKind)(x:O):uY dI bM (⟨i,us,os,⟨d,g9,.conv k x⟩⟩::l) σ res pd K=qR g9 dI bM res us os σ pd i d (.conv k x) l K:=qc E0 _ _ _ _ _ _ _ _ _ _ _ _ _ rfl
def amf(k:IntKind)(x:O):again σ ⟨i,⟨d,g9,.conv k x⟩,tm,v,true,none⟩=true:=je _ _ _ _ _ _ _ rfl rfl
def ahA(z:List B)(ps:List (Nat×Nat×O)):uY dI bM (⟨i,us,os,⟨d,g9,.build z ps⟩⟩::l) σ res pd K=qR g9 dI bM res us os σ pd i d (.build z ps) l K:=qc E0 _ _ _ _ _ _ _ _ _ _ _ _ _ rfl
def ahB(z:List B)(ps:List (Nat×Nat×O)):again σ ⟨i,⟨d,g9,.build z ps⟩,tm,v,true,none⟩=true:=je _ _ _ _ _ _ _ rfl rfl
def amg(f:Nat)(cs:List O):uY dI bM (⟨i,us,os,⟨d,g9,.P7 f cs⟩⟩::l) σ res pd K=qR g9 dI bM res us os σ pd i d (.P7 f cs) l K:=qc E0 _ _ _ _ _ _ _ _ _ _ _ _ _ rfl
def amh(f:Nat)(cs:List O):again σ ⟨i,⟨d,g9,.P7 f cs⟩,tm,v,true,none⟩=true:=je _ _ _ _ _ _ _ rfl rfl
def aq9(x:O):uY dI bM (⟨i,us,os,⟨d,g9,.len x⟩⟩::l) σ res pd K=qR g9 dI bM res us os σ pd i d (.len x) l K:=qc E0 _ _ _ _ _ _ _ _ _ _ _ _ _ rfl
def ara(x:O):again σ ⟨i,⟨d,g9,.len x⟩,tm,v,true,none⟩=true:=je _ _ _ _ _ _ _ rfl rfl
def ahC(e:Nat)(x:O)(lo hi mx:Option O):uY dI bM (⟨i,us,os,⟨d,g9,.slice e x lo hi mx⟩⟩::l) σ res pd K=qR g9 dI bM res us os σ pd i d (.slice e x lo hi mx) l K:=qc E0 _ _ _ _ _ _ _ _ _ _ _ _ _ rfl
def ahD(e:Nat)(x:O)(lo hi mx:Option O):again σ ⟨i,⟨d,g9,.slice e x lo hi mx⟩,tm,v,true,none⟩=true:=je _ _ _ _ _ _ _ rfl rfl
def ami(x:O):uY dI bM (⟨i,us,os,⟨d,g9,.P8 x⟩⟩::l) σ res pd K=qR g9 dI bM res us os σ pd i d (.P8 x) l K:=qc E0 _ _ _ _ _ _ _ _ _ _ _ _ _ rfl
def amj(x:O):again σ ⟨i,⟨d,g9,.P8 x⟩,tm,v,true,none⟩=true:=je _ _ _ _ _ _ _ rfl rfl
def amk(x y:O):uY dI bM (⟨i,us,os,⟨d,g9,.min2 x y⟩⟩::l) σ res pd K=qR g9 dI bM res us os σ pd i d (.min2 x y) l K:=qc E0 _ _ _ _ _ _ _ _ _ _ _ _ _ rfl
def aml(x y:O):again σ ⟨i,⟨d,g9,.min2 x y⟩,tm,v,true,none⟩=true:=je _ _ _ _ _ _ _ rfl rfl
end
def arb{E:Env}{tm:Tr V}{σ:St}{Q:AX->Tr V->St->Prop}{d:Dr}{pt:List (List Nat)}{ds:List Nat}(h:WT E pt tm (aak tm ds) d σ [] [] λtm' σ'=>Q .normal tm' σ'):bI E (.drawn d pt ds) tm σ Q:=
 aex _ (Jr tm ds) h
section
variable {E:Env}
theorem amm{n:Nat}{op:vT}{tm:Tr V}{σ σ':St}{v:V}{K:V->St->Prop}(h:oM (iQ E n) op tm σ=some (v,σ'))(hk:K v σ'):wpOp E op tm σ K:=by
 unfold wpOp;split
 .next g args=>
  unfold oM at h;simp only[vT.kind]at h;split at h
  .next f a e=>
   unfold abX at e;cases hg:g.ev tm with
   |fn f' caps=>
    dsimp only at e
    rw[hg]at e
    obtain⟨rfl,rfl⟩:=Prod.mk.inj (eA e)
    exact⟨n,v,σ',h,hk⟩
   |_=>grind
  .cases h
 .next hne=>
  have e:oM (λ_ _ _=>none) op tm σ=oM (iQ E n) op tm σ:=by
   unfold oM;cases hk2:op.kind with
   |c=>cases op<;>simp only[vT.kind,reduceCtorEq]at hk2;grind
   |_=>rfl
  grind
def ahE{n:Nat}{o:AO}{tm:Tr V}{σ σ':St}{v:V}{K:V->St->Prop}(h:stepG (iQ E n) o tm σ=some (v,σ'))(hk:K v σ'):wpG E o tm σ K:=by grind[wpG,stepG,amm]
theorem Xh{n:Nat}:∀{l:List AO}{tm tm':Tr V}{σ σ':St}{Q:Tr V->St->Prop},sF (iQ E n) l tm σ=some (tm',σ')->Q tm' σ'->wpOps E l tm σ Q
 |[],_,_,_,_,_,h,hq=>by cases h;exact hq
 |o::l,tm,tm',σ,σ',Q,h,hq=>by
  unfold sF at h;split at h
  .next v σ1 e=>
   rw[Ld]at h;exact ahE e (Xh h hq)
  .cases h
theorem ahF{n:Nat}{pt:List (List Nat)}{dI bM:Tr V}:∀{d:Dr}{σ σ':St}{res:List Rs}{pd:List iP}{tm':Tr V}{Q:Tr V->St->Prop},Cb (iQ E n) pt dI bM d σ res pd=some (tm',σ')->Q tm' σ'->WT E pt dI bM d σ res pd Q
 |.fin qs,σ,σ',res,pd,tm',Q,h,hq=>by grind[Go.Proofs.Xe.Cb,Go.Proofs.Xe.WT]
 |.act qs x r,σ,σ',res,pd,tm',Q,h,hq=>by
  unfold Cb at h;unfold WT;split at h
  .next σ1 res1 pd1 e=>
   rw[e];dsimp only;cases hb:pd1.all (again σ1)with
   |false=>rw[hb]at h;cases h
   |true=>
    rw[hb]at h
    simp only[cB]at h
    refine⟨rfl,?_⟩
    split at h
    .next VX e2=>
     rw[e2]
     dsimp only
     split at h
     .next v σ2 e3=>exact ahE e3 (ahF h hq)
     .cases h
    .cases h
  .cases h
end
section
variable (E:Env) (tm:Tr V) (σ:St) (Q:AX→Tr V→St→Prop)
def ard(l:List AO):bI E (.ops l) tm σ Q=wpOps E l tm σ λtm' σ'=>Q .normal tm' σ':=by
 refine propext ⟨?_,alM⟩;rintro⟨n,e,tm',σ',h,hq⟩;cases n with
 |zero=>grind[exec]
 |succ n=>
  simp only[exec,Ws]at h
  grind[Xh]
def au4(d:Dr)(pt:List (List Nat))(ds:List Nat):bI E (.drawn d pt ds) tm σ Q=WT E pt tm (aak tm ds) d σ [] [] λtm' σ'=>Q .normal tm' σ':=by
 refine propext ⟨?_,arb⟩;rintro⟨n,e,tm',σ',h,hq⟩;cases n with
 |zero=>grind[exec]
 |succ n=>
  simp only[exec,xDr,Ws,Jr]at h
  grind[ahF]
def seq_eq(a b:AC):bI E (.seq a b) tm σ Q=bI E a tm σ (Ug E b Q):=by
 refine propext ⟨?_,run_seq⟩;rintro⟨n,e,tm',σ',h,hq⟩;cases n with
 |zero=>grind[exec]
 |succ n=>
  rw[exec]at h
  cases hx:exec E n a tm σ with
  |none=>rw[hx]at h;cases h
  |some q=>
   rw[hx]at h
   obtain⟨e1,Ib,σ1⟩:=q
   refine⟨n,e1,Ib,σ1,hx,?_⟩
   cases e1 with
   |normal=>exact⟨n,e,tm',σ',h,hq⟩
   |exit i=>cases h;exact hq
   |ret=>cases h;exact hq
def ahG(i:Nat)(a:AC):bI E (.block i a) tm σ Q=bI E a tm σ (ag6 i Q):=by
 refine propext ⟨?_,Ee⟩;rintro⟨n,e,tm',σ',h,hq⟩;cases n with
 |zero=>grind[exec]
 |succ n=>
  rw[exec]at h
  cases hx:exec E n a tm σ with
  |none=>rw[hx]at h;cases h
  |some q=>
   rw[hx]at h
   obtain⟨e1,Ib,σ1⟩:=q
   refine⟨n,e1,Ib,σ1,hx,?_⟩
   cases e1 with
   |normal=>cases h;exact hq
   |exit j=>cases h;exact hq
   |ret=>cases h;exact hq
def amn:bI E .skip tm σ Q=Q .normal tm σ:=by
 refine propext ⟨?_,WR⟩;rintro⟨n,e,tm',σ',h,hq⟩;cases n with
 |zero=>grind[exec]
 |succ n=>grind[exec]
def amo(i:Nat):bI E (.exit i) tm σ Q=Q (.exit i) tm σ:=by
 refine propext ⟨?_,ag4⟩;rintro⟨n,e,tm',σ',h,hq⟩;cases n with
 |zero=>grind[exec]
 |succ n=>grind[exec]
def arf:bI E .ret tm σ Q=Q .ret tm σ:=by
 refine propext ⟨?_,alK⟩;rintro⟨n,e,tm',σ',h,hq⟩;cases n with
 |zero=>grind[exec]
 |succ n=>grind[exec]
def ifV(v:V)(P:Bool->Prop):Prop:=match v with|.c (.bool t)=>P t|_=>False
def amq(x:O)(a b:AC):bI E (.cond x a b) tm σ Q=ifV (x.ev tm) λt=>bI E (bif t then a else b) tm σ Q:=by
 refine propext ⟨?_,λh=>?_⟩
 .rintro⟨n,e,tm',σ',h,hq⟩;cases n with
  |zero=>grind[exec]
  |succ n=>
   simp only[exec,abZ]at h
   split at h
   .next t e=>rw[e];exact⟨n,_,_,_,h,hq⟩
   .cases h
 .unfold ifV at h;grind[ag5]
def arh(a b:AC):bI E (bif true then a else b) tm σ Q=bI E a tm σ Q:=rfl
def ari(a b:AC):bI E (bif false then a else b) tm σ Q=bI E b tm σ Q:=rfl
def amr(a b:AC):bI E (bif !true then a else b) tm σ Q=bI E b tm σ Q:=rfl
def ams(a b:AC):bI E (bif !false then a else b) tm σ Q=bI E a tm σ Q:=rfl
def ahH(n:Nat)(b:AC)(r:List (Nat×Option (Nat×Bool))):bI E (AF.body ⟨n,b,r⟩) tm σ Q=bI E b tm σ Q:=rfl
def ahI(P:Bool->Prop):ifV (.c (.bool true)) P=P true:=rfl
def aeS(P:Bool->Prop):ifV (.c (.bool false)) P=P false:=rfl
def amu(b:Bool)(P:Bool->Prop):ifV (.c (.bool (!b))) P=ifV (.c (.bool b)) λt=>P (!t):=rfl
def aH{p:Prop}[Decidable p]{P:Bool->Prop}(h1:p->P true)(h2:¬p->P false):ifV (.c (.bool (decide p))) P:=by
 show P (decide p);by_cases h:p
 .grind
 grind
def au5{b:Bool}{P:Bool->Prop}(h1:b=true->P true)(h2:b=false->P false):ifV (.c (.bool b)) P:=by
 show P b;cases b with
 |true=>grind
 |false=>grind
def tick:Prop:=∀n:Nat,n=n
def aeT:tick=True:=propext ⟨λ_=>trivial,λ_ _=>rfl⟩
@[congr] theorem atT {z:Prop} {v v' : V} {P:Bool→Prop} (hz:tick=z) (h:v=v'):ifV v P=ifV v' P:=by rw [h]
@[congr] theorem atU {z:Prop} {v v' : Option V} {P:V→Prop} (hz:tick=z) (h:v=v'):GN v P=GN v' P:=by rw [h]
@[congr] theorem arj {z:Prop} {c:AC} {tm tm' : Tr V} {σ σ' : St} {Q:AX→Tr V→St→Prop} (hz:tick=z) (h:tm=tm') (h2:σ=σ'):bI E c tm σ Q=bI E c tm' σ' Q:=by rw [h,h2]
@[congr] theorem ape {z:Prop} {c:List AO} {tm tm' : Tr V} {σ σ' : St} {Q:Tr V→St→Prop} (hz:tick=z) (h:tm=tm') (h2:σ=σ'):wpOps E c tm σ Q=wpOps E c tm' σ' Q:=by rw [h,h2]
@[congr] theorem atV {z:Prop} {c:AO} {tm tm' : Tr V} {σ σ' : St} {Q:V→St→Prop} (hz:tick=z) (h:tm=tm') (h2:σ=σ'):wpG E c tm σ Q=wpG E c tm' σ' Q:=by rw [h,h2]
@[congr] theorem ark {z:Prop} {c:vT} {tm tm' : Tr V} {σ σ' : St} {Q:V→St→Prop} (hz:tick=z) (h:tm=tm') (h2:σ=σ'):wpOp E c tm σ Q=wpOp E c tm' σ' Q:=by rw [h,h2]
@[congr] theorem apf {z:Prop} {f:Nat} {a a' : List V} {σ σ' : St} {Q:V→St→Prop} (hz:tick=z) (h:a=a') (h2:σ=σ'):aC E f a σ Q=aC E f a' σ' Q:=by rw [h,h2]
@[congr] theorem atW {z:Prop} {dI bM:Tr V} {qs:List DO} {σ σ' : St} {res res' : List Rs} {pd pd' : List iP} {K:St→List Rs→List iP→Prop} (hz:tick=z) (h2:σ=σ') (h3:res=res') (h4:pd=pd'):uY dI bM qs σ res pd K=uY dI bM qs σ' res' pd' K:=by grind
@[congr] theorem atX {z:Prop} {pt:List (List Nat)} {dI bM:Tr V} {d:Dr} {σ σ' : St} {res res' : List Rs} {pd pd' : List iP} {K:Tr V→St→Prop} (hz:tick=z) (h2:σ=σ') (h3:res=res') (h4:pd=pd'):WT E pt dI bM d σ res pd K=WT E pt dI bM d σ' res' pd' K:=by grind
@[congr] theorem atY {z:Prop} {σ σ' : St} {pd pd' : List iP} (hz:tick=z) (h:σ=σ') (h2:pd=pd'):agn σ pd=agn σ' pd':=by rw [h,h2]
@[congr] theorem arl {z:Prop} {i i' : Nat} {o:AO} {tm:Tr V} {v:V} {g:Bool} {nm:Option Nat} (hz:tick=z) (h:i=i'):iP.mk i o tm v g nm=iP.mk i' o tm v g nm:=by rw [h]
@[congr] theorem apg {z:Prop} {σ σ' : St} {p:iP} (hz:tick=z) (h:σ=σ'):again σ p=again σ' p:=by rw [h]
@[congr] theorem atZ {z:Prop} {dI bM:Tr V} {res:List Rs} {us us' os:List Nat} (hz:tick=z) (h:us=us'):Nk dI bM res us os=Nk dI bM res us' os:=by rw [h]
@[congr] theorem arn {z:Prop} {bM:Tr V} {res:List Rs} {us us' : List Nat} (hz:tick=z) (h:us=us'):Ji bM res us=Ji bM res us':=by rw [h]
@[congr] theorem at1 {z:Prop} {res:List Rs} {u u' : Nat} (hz:tick=z) (h:u=u'):fnd res u=fnd res u':=by rw [h]
@[congr] theorem aph {z:Prop} {dI tm:Tr V} {os os' : List Nat} (hz:tick=z) (h:os=os'):Fz dI tm os=Fz dI tm os':=by rw [h]
@[congr] theorem aro {z:Prop} {g:Option (Nat×Bool)} {tm:Tr V} {A B:Prop} (hz:tick=z):BI g tm A B=BI g tm A B:=rfl
@[congr] theorem at6 {z:Prop} {v v' : V} {b:Bool} {A B:Prop} (hz:tick=z) (h:v=v'):gsV v b A B=gsV v' b A B:=by rw [h]
@[congr] theorem au6 {z:Prop} {g:Option (Nat×Bool)} {dI bM:Tr V} {res:List Rs} {us os:List Nat} {σ:St} {pd:List iP} {i:Nat} {d:Option Nat} {op:vT} {l:List DO} {K:St→List Rs→List iP→Prop} (hz:tick=z):qR g dI bM res us os σ pd i d op l K=qR g dI bM res us os σ pd i d op l K:=rfl
def amv(E:Env)(d:Option Nat)(g:Option (Nat×Bool))(op:vT)(tm:Tr V)(σ:St)(K:V->St->Prop):wpG E ⟨d,g,op⟩ tm σ K=BI g tm (wpOp E op tm σ K) (K .tnil σ):=rfl
def arp(x:O)(K:V->St->Prop):wpOp E (.mov x) tm σ K=GN (some (x.ev tm)) λv=>K v σ:=rfl
def arq(b:AC):Ug E b Q .normal tm σ=bI E b tm σ Q:=rfl
def ars(b:AC)(i:Nat):Ug E b Q (.exit i) tm σ=Q (.exit i) tm σ:=rfl
def aru(b:AC):Ug E b Q .ret tm σ=Q .ret tm σ:=rfl
def arv(i:Nat):ag6 i Q .normal tm σ=Q .normal tm σ:=rfl
def arw(i j:Nat):ag6 i Q (.exit j) tm σ=Q (bif Nat.beq j i then .normal else .exit j) tm σ:=rfl
def arx(i:Nat):ag6 i Q .ret tm σ=Q .ret tm σ:=rfl
variable (I:Nat→Tr V→St→Prop) (m:Nat) (res:List (Nat×Option (Nat×Bool))) (K:V→St→Prop)
def arz:alL I m Q .normal tm σ=∃m',m'<m/\I m' tm σ:=rfl
def arA(i:Nat):alL I m Q (.exit i) tm σ=Q (.exit i) tm σ:=rfl
def arB:alL I m Q .ret tm σ=Q .ret tm σ:=rfl
def amw:aaf res K .normal tm σ=GN (result tm σ res) λv=>K v σ:=by unfold aaf GN;grind
def arC:aaf res K .ret tm σ=GN (result tm σ res) λv=>K v σ:=by unfold aaf GN;grind
end
def arD(p q:Rat):decide (qj p q<0)=decide (p<q):=by
 by_cases h:p<q
 .rw[bh h,bh];exact qA.mpr h
 .rw[ap h,ap];exact λe=>h (qA.mp e)
def ahJ(tm:Tr V)(d:Nat)(v:V):Tr.get (EJ tm (some d) v) d=some v:=by grind[EJ,Tr.uj]
def arE(tm:Tr V)(d j:Nat)(v:V)(h:j≠d):Tr.get (EJ tm (some d) v) j=Tr.get tm j:=by grind[EJ,Tr.uj]
def aao(tm:Tr V)(σ:St):oZ tm σ []=some .tnil:=rfl
def ahK(tm:Tr V)(σ:St)(t:Nat)(r:List (Nat×Option (Nat×Bool))):oZ tm σ ((t,none)::r)=match tm.get t,oZ tm σ r with|some v,some w=>some (.aW v w)|_,_=>none:=rfl
def ahL(tm:Tr V)(σ:St)(t n:Nat)(g:Bool)(r:List (Nat×Option (Nat×Bool))):oZ tm σ ((t,some (n,g))::r)=match(match tm.ah t with|.c (.ptr b o)=>ld σ.h b o n g|_=>none),oZ tm σ r with|some v,some w=>some (.aW v w)|_,_=>none:=rfl
def Fr.new1{σ:St}{h:Tr Bk}{n:Nat}{k:Bk}(hf:Fr σ ⟨h,n⟩):Fr σ ⟨hset h n k,n+1⟩:=Fr.new hf k
def Fr.set1{σ:St}{h:Tr Bk}{n b:Nat}{k:Bk}(hf:Fr σ ⟨h,n⟩)(h1:σ.aj<=b)(h2:b<n):Fr σ ⟨hset h b k,n⟩:=Fr.set hf h1 h2 k
def ak{h:Tr Bk}{b:Nat}{k:Bk}(e:h b=some k)(o n:Nat)(g:Bool):ld h b o n g=bif k.rd then zI k.cells o n g else none:=by unfold ld;rw[e]
def aJ{h:Tr Bk}{b:Nat}{k:Bk}(e:h b=some k)(o:Nat)(vs:List B):sto h b o vs=match bif k.pl then yw k.cells o vs else none with|some l=>some (hset h b ⟨l,k.opn⟩)|none=>none:=by grind[sto]
def plo(o:Option (Nat×Nat)):Bool:=match o with|some (0,_)=>false|_=>true
def Zo(o:Option (Nat×Nat)):Bool:=match o with|some (0,t)=>Nat.beq t 1|_=>true
def arF(k:Bk):k.pl=plo k.opn:=rfl
def NV(k:Bk):k.rd=Zo k.opn:=rfl
def ahM:plo none=true:=rfl
def ahN:Zo none=true:=rfl
def apj(e t:Nat)(h:e≠0):plo (some (e,t))=true:=by cases e with|zero=>omega|succ e=>rfl
def CQ(e t:Nat)(h:e≠0):Zo (some (e,t))=true:=by cases e with|zero=>omega|succ e=>rfl
def au7:Zo (some (0,1))=true:=rfl
def ahO(k:IntKind)(n:Int):B.kn (.int k n)=true:=rfl
theorem Ar(b:Bool):B.kn (.bool b)=true:=rfl
theorem FY(s:ByteArray):B.kn (.str s)=true:=rfl
def arG(b o:Nat):B.kn (.ptr b o)=true:=rfl
def amx:B.kn .TM=true:=rfl
def au8(b o n:Nat)(c:Cap):B.kn (.sl b o n c)=true:=rfl
def amy:B.kn .aX=true:=rfl
def au9(b:Nat):B.kn (.mp b)=true:=rfl
def HL.kn{h:Tr Bk}{e:Nat}{v:B}{n:Nat}{G:Nat->List B}(hl:HL h e v n G):v.kn=true:=by rcases hl with⟨-,rfl⟩|⟨b,o,c,rfl,-⟩<;>rfl
def HC.kn{h:Tr Bk}{v:B}{n:Nat}{G:Nat->B}(hl:HC h v n G):v.kn=true:=by rcases hl with⟨-,rfl⟩|⟨b,o,c,rfl,-⟩<;>rfl
def ava(x:B)(l:List B)(o n:Nat):zI (x::l) o n true=bif Nat.beq (((x::l).drop o).take n).length n&&(((x::l).drop o).take n).all B.kn then some (.agg (((x::l).drop o).take n))else none:=rfl
def avb(x:B)(l:List B)(o n:Nat):zI (x::l) o n false=match(x::l).drop o with|x::_=>bif x.kn then some (.c x)else none|[]=>none:=rfl
def avc(x:B)(l vs:List B):yw (x::l) 0 vs=bif Nat.ble vs.length (x::l).length then some (vs++(x::l).drop vs.length)else none:=by rw[yw]
def avd(x:B)(l:List B)(o:Nat)(vs:List B):yw (x::l) (o+1) vs=match yw l o vs with|some r=>some (x::r)|none=>none:=by rfl
def ahP(a b:Nat):(Int.ofNat a=Int.ofNat b)=(a=b):=propext ⟨io,λe=>by rw[e]⟩
def eq_neg(a b:Nat):(Int.ofNat a=Int.negSucc b)=False:=by simp
def ave[h:Decidable True]: @decide True h=true:=by simp
def avf[h:Decidable False]: @decide False h=false:=by simp
attribute [go_sem] aeT amr ams arh ari ahH aeL wpOps_cons ahg aqD o_load alT alU alV aqE auL aqF aqG aqH aqI auM auN auO auP auQ auR auS aqJ aqK auT auU auV alW alX aqL auX auW auY alY BZ aqM ZR auZ alS aeK aqN alZ au0 aqO Kq rep au1 al0 aqP ax3 ax4 aeC alQ aeD aeE aeF aeG aeH aeI V.cells alR auK ahf aqC aA ax5 ax6 cO eo Bool.and_true Bool.true_and List.drop_succ_cons gp fT cE bX List.length_nil Nat.reduceAdd cM cD ab9 NU vW FD au cW List.nil_append gA List.map_cons List.map_nil result ahe aG al7 al8 al3 aqX amb amd ahq ahs ahu aqZ aq1 aq3 ahw ahy aq5 aq7 ame ahA amg aq9 ahC ami amk aeP al4 al5 aqQ ahj aeM ahk al1 ahl aeN aal ahm aeO ahi al6 ahn aqY amc ahr aht ahv aq0 aq2 aq4 ahx ahz aq6 aq8 amf ahB amh ara ahD amj aml aan Xg aeR al9 au2 aam aeQ List.contains_cons List.contains_nil Nat.reduceBEq Bool.or_false Bool.or_true Bool.false_or Bool.true_or cB fj List.getD_cons_zero List.getD_cons_succ am and_true amv aqR aqS aqT aqU aqV aqW al2 au3 ama arp ard au4 seq_eq ahG amn amo arf amq ahI aeS amu arq ars aru arv arw arx arz arA arB amw arC arD ahO Ar FY arG amx au8 amy au9 ava avb avc avd ahP eq_neg ave avf arF NV ahM ahN apj CQ au7 ahJ arE aao ahK ahL auH aai aaj ahc aeB auI auJ aqy ahb auF aqx aha aeA W9 aqv WY aqw WZ aez auG alO ab8 aqz Xb aqA aqB alP Xa ahd
end Go.Proofs.Xe
