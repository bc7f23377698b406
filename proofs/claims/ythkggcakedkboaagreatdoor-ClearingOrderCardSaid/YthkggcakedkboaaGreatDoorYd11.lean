import Derived.Test.YthkggcakedkboaaGreatDoorYd10
import Derived.Attr
set_option linter.all false
namespace Go.Proofs.Xe
open Go.RowKit Go.Proofs.Ins
noncomputable def Zn(tm:Tr V):List Nat->Tr V
 |[]=>tm
 |d::l=>(Zn tm l).set d none
def I9(tm:Tr V):∀ds,Ag tm ds=some (Zn tm ds)
 |[]=>rfl
 |d::l=>by unfold Ag;rw[I9 tm l];rfl
theorem abg(tm:Tr V)(j:Nat):∀ds:List Nat,ds.contains j=false->(Zn tm ds).get j=tm.get j
 |[],_=>rfl
 |d::l,h=>by rw[List.contains_cons,Bool.or_eq_false_iff]at h;show((Zn tm l).set d none).get j=_;rw[Tr.tJ,ae (by simpa using h.1),abg tm j l h.2]
def agi(tm:Tr V)(ds:List Nat)(j:Nat)(h:ds.contains j=false):Tr.ah (Zn tm ds) j=Tr.ah tm j:=by grind[Tr.ah,abg]
def fnd:List Rs->Nat->Option Rs
 |[],_=>none
 |r::l,u=>bif Nat.beq r.i u then some r else fnd l u
def Wq(u:Nat):∀l:List Rs,l.find? (λr=>Nat.beq r.i u)=fnd l u
 |[]=>rfl
 |r::l=>by rw[List.find?_cons,fnd,Wq u l];cases Nat.beq r.i u<;>rfl
noncomputable def tmO:Option (Tr V)->Option Rs->Option (Tr V)
 |some tm,some r=>some (Ew tm r.d r.v)
 |_,_=>none
def agj(bM:Tr V)(res:List Rs):IV bM res []=some bM:=rfl
def adG(bM:Tr V)(res:List Rs)(u:Nat)(us:List Nat):IV bM res (u::us)=tmO (IV bM res us) (fnd res u):=by
 rw[IV,Wq];cases IV bM res us with
 |none=>rfl
 |some tm=>
  cases fnd res u with
  |none=>rfl
  |some r=>show IU tm r.d r.v=_;rw[KF];rfl
def agk(tm:Tr V)(i:Nat)(d:Option Nat)(v:V):tmO (some tm) (some ⟨i,d,v⟩)=some (Ew tm d v):=rfl
def akX(i:Nat)(d:Option Nat)(v:V)(l:List Rs):fnd (⟨i,d,v⟩::l) i=some ⟨i,d,v⟩:=by unfold fnd;simp
def agl(i u:Nat)(d:Option Nat)(v:V)(l:List Rs)(h:i≠u):fnd (⟨i,d,v⟩::l) u=fnd l u:=by grind[fnd,Ns]
def adH(dB tm:Tr V):EW dB tm []=some tm:=rfl
def Zo(dB tm:Tr V)(t:Nat)(l:List Nat):EW dB tm (t::l)=match EW dB tm l with|some tm=>some (Ew tm (some t) (dB.ah t))|none=>none:=by rfl
def apD(dB bM:Tr V)(res:List Rs)(us os:List Nat):MG dB bM res us os=match IV bM res us with|some tm=>EW dB tm os|none=>none:=rfl
def agm(bM:Tr V):J4 bM []=some bM:=rfl
def adI(bM:Tr V)(i:Nat)(d:Option Nat)(v:V)(l:List Rs):J4 bM (⟨i,d,v⟩::l)=match J4 bM l with|some tm=>some (Ew tm d v)|none=>none:=by grind[J4,KF]
def Bv(g:Option (Nat×Bool))(tm:Tr V)(A B:Prop):Prop:=match gate g tm with|some true=>A|some false=>B|none=>False
def gsV(v:V)(b:Bool)(A B:Prop):Prop:=match v with|.c (.bool c)=>(bif c==b then A else B)|.tnil=>B|_=>False
def apE(tm:Tr V)(A B:Prop):Bv none tm A B=A:=rfl
def apG(t:Nat)(b:Bool)(tm:Tr V)(A B:Prop):Bv (some (t,b)) tm A B=gsV (tm.ah t) b A B:=by grind[Bv,gsV,gate]
def apI(A B:Prop):gsV (.c (.bool true)) true A B=A:=rfl
def apJ(A B:Prop):gsV (.c (.bool true)) false A B=B:=rfl
def apL(A B:Prop):gsV (.c (.bool false)) true A B=B:=rfl
def apM(A B:Prop):gsV (.c (.bool false)) false A B=A:=rfl
def akY(b:Bool)(A B:Prop):gsV .tnil b A B=B:=rfl
def abh{p:Prop}[Decidable p]{A B:Prop}(h1:p->A)(h2:¬p->B):gsV (.c (.bool (decide p))) true A B:=by
 by_cases h:p
 .rw[bw h];exact h1 h
 .rw[aw h];exact h2 h
def Ws{p:Prop}[Decidable p]{A B:Prop}(h1:p->B)(h2:¬p->A):gsV (.c (.bool (decide p))) false A B:=by
 by_cases h:p
 .rw[bw h];exact h1 h
 .rw[aw h];exact h2 h
def uM(dB bM:Tr V)(qs:List DO)(σ:St)(res:List Rs)(pd:List iK)(K:St->List Rs->List iK->Prop):Prop:=
 match xR dB bM qs σ res pd with
 |some (σ,res,pd)=>K σ res pd
 |none=>False
def akZ(dB bM:Tr V)(σ:St)(res:List Rs)(pd:List iK)(K:St->List Rs->List iK->Prop):uM dB bM [] σ res pd K=K σ res pd:=rfl
section
variable (E:Env) (pt:List (List Nat)) (dB bM:Tr V) (σ:St) (res:List Rs) (pd:List iK)
def pK(i:Nat)(us os:List Nat)(d:Option Nat)(g:Option (Nat×Bool))(op:vG)(l:List DO)(K:St->List Rs->List iK->Prop)(h:op.kind=.q):
  uM dB bM (⟨i,us,os,⟨d,g,op⟩⟩::l) σ res pd K=match MG dB bM res us os with
   |some tm=>Bv g tm (wpOp E op tm σ λv _=>uM dB bM l σ (⟨i,d,v⟩::res) (⟨i,⟨d,g,op⟩,tm,v,true,none⟩::pd) K) (uM dB bM l σ (⟨i,d,.tnil⟩::res) (⟨i,⟨d,g,op⟩,tm,.tnil,false,none⟩::pd) K)
   |none=>False:=by
 unfold uM Bv
 rw[xR]
 dsimp only
 cases MG dB bM res us os with
 |none=>rfl
 |some tm=>
  dsimp only
  have hc:∀g l,op≠.call g l:=λg l e=>by rw[e]at h;cases h
  grind[iq,Gf]
def adJ(i:Nat)(us os:List Nat)(d:Option Nat)(g:Option (Nat×Bool))(z:List B)(l:List DO)(K:St->List Rs->List iK->Prop):
  uM dB bM (⟨i,us,os,⟨d,g,.alloc z⟩⟩::l) σ res pd K=match MG dB bM res us os with
   |some tm=>Bv g tm (uM dB bM l ⟨hset σ.h σ.aj ⟨z,none⟩,σ.aj+1⟩ (⟨i,d,.c (.ptr σ.aj 0)⟩::res) (⟨i,⟨d,g,.alloc z⟩,tm,.c (.ptr σ.aj 0),true,some σ.aj⟩::pd) K)
    (uM dB bM l σ (⟨i,d,.tnil⟩::res) (⟨i,⟨d,g,.alloc z⟩,tm,.tnil,false,none⟩::pd) K)
   |none=>False:=by
 unfold uM Bv
 rw[xR]
 dsimp only
 cases MG dB bM res us os with
 |none=>rfl
 |some tm=>
  grind[vG.kind,ng,jH]
def ak0(i:Nat)(us os:List Nat)(d:Option Nat)(g:Option (Nat×Bool))(x:O)(l:List DO)(K:St->List Rs->List iK->Prop):
  uM dB bM (⟨i,us,os,⟨d,g,.box x⟩⟩::l) σ res pd K=match MG dB bM res us os with
   |some tm=>Bv g tm (match(x.ev tm).cells with
    |some z=>uM dB bM l ⟨hset σ.h σ.aj ⟨z,none⟩,σ.aj+1⟩ (⟨i,d,.c (.ptr σ.aj 0)⟩::res) (⟨i,⟨d,g,.box x⟩,tm,.c (.ptr σ.aj 0),true,some σ.aj⟩::pd) K
    |none=>False) (uM dB bM l σ (⟨i,d,.tnil⟩::res) (⟨i,⟨d,g,.box x⟩,tm,.tnil,false,none⟩::pd) K)
   |none=>False:=by
 unfold uM Bv
 rw[xR]
 dsimp only
 cases MG dB bM res us os with
 |none=>rfl
 |some tm=>
  grind[vG.kind,ng,jH]
def ak1(i:Nat)(us os:List Nat)(d:Option Nat)(g:Option (Nat×Bool))(e n:Nat)(z:List B)(ps:List (Nat×Nat×O))(l:List DO)(K:St->List Rs->List iK->Prop)(hn:n*e<=16777216)(hn2:n<=16777216):
  uM dB bM (⟨i,us,os,⟨d,g,.bsl e n z ps⟩⟩::l) σ res pd K=match MG dB bM res us os with
   |some tm=>Bv g tm (match BQ (rep z n) (ps.map λp=>(p.1,p.2.1,p.2.2.ev tm))with
    |some c=>uM dB bM l ⟨hset σ.h σ.aj ⟨c,none⟩,σ.aj+1⟩ (⟨i,d,.c (.sl σ.aj 0 n (.ex n))⟩::res) (⟨i,⟨d,g,.bsl e n z ps⟩,tm,.c (.sl σ.aj 0 n (.ex n)),true,some σ.aj⟩::pd) K
    |none=>False) (uM dB bM l σ (⟨i,d,.tnil⟩::res) (⟨i,⟨d,g,.bsl e n z ps⟩,tm,.tnil,false,none⟩::pd) K)
   |none=>False:=by
 unfold uM Bv
 rw[xR]
 dsimp only
 cases MG dB bM res us os with
 |none=>rfl
 |some tm=>
  grind[vG.kind,ng,uo,jH]
def agn(σ:St):List iK->Prop
 |[]=>True
 |p::l=>again σ p=true/\agn σ l
theorem Tz(σ:St):∀l:List iK,(l.all (again σ)=true)=agn σ l
 |[]=>by simp[agn]
 |p::l=>by rw[cG,af,Tz σ l];rfl
def ak2(σ:St):agn σ []=True:=rfl
def agp(σ:St)(p:iK)(l:List iK):agn σ (p::l)=(again σ p=true/\agn σ l):=rfl
def adK(l:List Nat):List iK->List iK
 |[]=>[]
 |p::pd=>bif l.contains p.i then adK l pd else p::adK l pd
theorem agq(l:List Nat):∀pd:List iK,pd.filter (λp=>!(l.contains p.i))=adK l pd
 |[]=>rfl
 |p::pd=>by rw[List.filter_cons,adK,agq l pd];cases l.contains p.i<;>rfl
def ak3(qs:List DO)(Q:Tr V->St->Prop):V4 E pt dB bM (.fin qs) σ res pd Q=uM dB bM qs σ res pd λσ res pd=>agn σ pd/\(match J4 bM res with|some tm=>Q tm σ|none=>False):=by grind[V4,uM,Tz]
def ak4(qs:List DO)(i:Nat)(us os:List Nat)(d:Option Nat)(g:Option (Nat×Bool))(op:vG)(r:Dr)(Q:Tr V->St->Prop):
  V4 E pt dB bM (.act qs ⟨i,us,os,⟨d,g,op⟩⟩ r) σ res pd Q=uM dB bM qs σ res pd λσ res pd=>agn σ pd/\(match MG dB bM res us os with
   |some tm=>wpG E ⟨d,g,op⟩ tm σ λv σ'=>V4 E pt dB bM r σ' (⟨i,d,v⟩::res) (adK (pt.getD i []) pd) Q
   |none=>False):=by
 grind[V4,uM,Tz,agq]
def ags(b:B):ac5 b b=b.kn:=by
 cases b<;>simp[ac5,B.kn]
 case int k n=>cases n<;>simp[eqI]
 case sl b o n c=>cases c<;>simp[eqC]
def Zp:∀l:List B,MF l l=l.all B.kn
 |[]=>rfl
 |b::l=>by rw[cG];unfold MF;rw[ags b,Zp l]
def ak5(l:List B):eqV (.agg l) (.agg l)=l.all B.kn:=Zp l
def atI(b:B):eqV (.c b) (.c b)=b.kn:=ags b
def iY(i:Nat)(d:Option Nat)(g9:Option (Nat×Bool))(op:vG)(tm:Tr V)(v:V)(h:op.kind=.q)(h2:op.looks=false):again σ ⟨i,⟨d,g9,op⟩,tm,v,true,none⟩=true:=by grind[again]
def Zq(i:Nat)(d:Option Nat)(g9:Option (Nat×Bool))(n:Nat)(g:Bool)(x:O)(tm:Tr V)(v:V):again σ ⟨i,⟨d,g9,.load n g x⟩,tm,v,true,none⟩=match(match x.ev tm with|.c (.ptr b o)=>ld σ.h b o n g|_=>none)with|some u=>eqV u v|none=>false:=by rfl
def Wu(i:Nat)(d:Option Nat)(g9:Option (Nat×Bool))(z:List B)(tm:Tr V)(v:V)(b:Nat):again σ ⟨i,⟨d,g9,.alloc z⟩,tm,v,true,some b⟩=match σ.h b with|some ⟨c,none⟩=>MF c z|_=>false:=by rfl
def adL(i:Nat)(d:Option Nat)(g9:Option (Nat×Bool))(e n:Nat)(z:List B)(ps:List (Nat×Nat×O))(tm:Tr V)(v:V)(b:Nat)(hn:n*e<=16777216)(hn2:n<=16777216):again σ ⟨i,⟨d,g9,.bsl e n z ps⟩,tm,v,true,some b⟩=match BQ (rep z n) (ps.map λp=>(p.1,p.2.1,p.2.2.ev tm))with|some z=>(match σ.h b with|some ⟨c,none⟩=>MF c z|_=>false)|none=>false:=by grind[again,vG.kind,ng,uo]
end
def ak6(σ:St)(i:Nat)(o:AO)(tm:Tr V)(v:V)(nm:Option Nat):again σ ⟨i,o,tm,v,false,nm⟩=true:=rfl
section
def E0:Env:=⟨λ_=>none,λ_ _ _=>none⟩
variable (dB bM tm:Tr V) (σ:St) (res:List Rs) (pd:List iK) (i:Nat) (us os:List Nat) (d:Option Nat) (g9:Option (Nat×Bool)) (l:List DO) (K:St→List Rs→List iK→Prop) (v:V)
def qR(g:Option (Nat×Bool))(dB bM:Tr V)(res:List Rs)(us os:List Nat)(σ:St)(pd:List iK)(i:Nat)(d:Option Nat)(op:vG)(l:List DO)(K:St->List Rs->List iK->Prop):Prop:=match MG dB bM res us os with
 |some tm=>Bv g tm (wpOp E0 op tm σ λv _=>uM dB bM l σ (⟨i,d,v⟩::res) (⟨i,⟨d,g,op⟩,tm,v,true,none⟩::pd) K) (uM dB bM l σ (⟨i,d,.tnil⟩::res) (⟨i,⟨d,g,op⟩,tm,.tnil,false,none⟩::pd) K)
 |none=>False
def atJ(g:Option (Nat×Bool))(dB bM:Tr V)(res:List Rs)(us os:List Nat)(σ:St)(pd:List iK)(i:Nat)(d:Option Nat)(op:vG)(l:List DO)(K:St->List Rs->List iK->Prop):qR g dB bM res us os σ pd i d op l K=match MG dB bM res us os with
 |some tm=>Bv g tm (wpOp E0 op tm σ λv _=>uM dB bM l σ (⟨i,d,v⟩::res) (⟨i,⟨d,g,op⟩,tm,v,true,none⟩::pd) K) (uM dB bM l σ (⟨i,d,.tnil⟩::res) (⟨i,⟨d,g,op⟩,tm,.tnil,false,none⟩::pd) K)
 |none=>False:=rfl
def apN(x:O):uM dB bM (⟨i,us,os,⟨d,g9,.mov x⟩⟩::l) σ res pd K=qR g9 dB bM res us os σ pd i d (.mov x) l K:=pK E0 _ _ _ _ _ _ _ _ _ _ _ _ _ rfl
def apO(x:O):again σ ⟨i,⟨d,g9,.mov x⟩,tm,v,true,none⟩=true:=iY _ _ _ _ _ _ _ rfl rfl
def ak7(c a b:O):uM dB bM (⟨i,us,os,⟨d,g9,.pick c a b⟩⟩::l) σ res pd K=qR g9 dB bM res us os σ pd i d (.pick c a b) l K:=pK E0 _ _ _ _ _ _ _ _ _ _ _ _ _ rfl
def ak8(c a b:O):again σ ⟨i,⟨d,g9,.pick c a b⟩,tm,v,true,none⟩=true:=iY _ _ _ _ _ _ _ rfl rfl
def ak9(n:Nat)(g:Bool)(x:O):uM dB bM (⟨i,us,os,⟨d,g9,.load n g x⟩⟩::l) σ res pd K=qR g9 dB bM res us os σ pd i d (.load n g x) l K:=pK E0 _ _ _ _ _ _ _ _ _ _ _ _ _ rfl
def agt(n:Nat)(x:O):uM dB bM (⟨i,us,os,⟨d,g9,.BP n x⟩⟩::l) σ res pd K=qR g9 dB bM res us os σ pd i d (.BP n x) l K:=pK E0 _ _ _ _ _ _ _ _ _ _ _ _ _ rfl
def agu(n:Nat)(x:O):again σ ⟨i,⟨d,g9,.BP n x⟩,tm,v,true,none⟩=true:=iY _ _ _ _ _ _ _ rfl rfl
def agv(o n:Nat)(g:Bool)(x:O):uM dB bM (⟨i,us,os,⟨d,g9,.field o n g x⟩⟩::l) σ res pd K=qR g9 dB bM res us os σ pd i d (.field o n g x) l K:=pK E0 _ _ _ _ _ _ _ _ _ _ _ _ _ rfl
def agw(o n:Nat)(g:Bool)(x:O):again σ ⟨i,⟨d,g9,.field o n g x⟩,tm,v,true,none⟩=true:=iY _ _ _ _ _ _ _ rfl rfl
def agx(e:Nat)(x j:O):uM dB bM (⟨i,us,os,⟨d,g9,.ET e x j⟩⟩::l) σ res pd K=qR g9 dB bM res us os σ pd i d (.ET e x j) l K:=pK E0 _ _ _ _ _ _ _ _ _ _ _ _ _ rfl
def agy(e:Nat)(x j:O):again σ ⟨i,⟨d,g9,.ET e x j⟩,tm,v,true,none⟩=true:=iY _ _ _ _ _ _ _ rfl rfl
def apP(n:Nat)(x:O):uM dB bM (⟨i,us,os,⟨d,g9,.ext n x⟩⟩::l) σ res pd K=qR g9 dB bM res us os σ pd i d (.ext n x) l K:=pK E0 _ _ _ _ _ _ _ _ _ _ _ _ _ rfl
def apQ(n:Nat)(x:O):again σ ⟨i,⟨d,g9,.ext n x⟩,tm,v,true,none⟩=true:=iY _ _ _ _ _ _ _ rfl rfl
def apR(b:BinOp)(x y:O):uM dB bM (⟨i,us,os,⟨d,g9,.bin b x y⟩⟩::l) σ res pd K=qR g9 dB bM res us os σ pd i d (.bin b x y) l K:=pK E0 _ _ _ _ _ _ _ _ _ _ _ _ _ rfl
def apS(b:BinOp)(x y:O):again σ ⟨i,⟨d,g9,.bin b x y⟩,tm,v,true,none⟩=true:=iY _ _ _ _ _ _ _ rfl rfl
def apT(p:Bool)(x y:O):uM dB bM (⟨i,us,os,⟨d,g9,.eqb p x y⟩⟩::l) σ res pd K=qR g9 dB bM res us os σ pd i d (.eqb p x y) l K:=pK E0 _ _ _ _ _ _ _ _ _ _ _ _ _ rfl
def apU(p:Bool)(x y:O):again σ ⟨i,⟨d,g9,.eqb p x y⟩,tm,v,true,none⟩=true:=iY _ _ _ _ _ _ _ rfl rfl
def agz(p:Bool)(x y:O):uM dB bM (⟨i,us,os,⟨d,g9,.EU p x y⟩⟩::l) σ res pd K=qR g9 dB bM res us os σ pd i d (.EU p x y) l K:=pK E0 _ _ _ _ _ _ _ _ _ _ _ _ _ rfl
def agA(p:Bool)(x y:O):again σ ⟨i,⟨d,g9,.EU p x y⟩,tm,v,true,none⟩=true:=iY _ _ _ _ _ _ _ rfl rfl
def agB(p:Bool)(x y:O):uM dB bM (⟨i,us,os,⟨d,g9,.Gy p x y⟩⟩::l) σ res pd K=qR g9 dB bM res us os σ pd i d (.Gy p x y) l K:=pK E0 _ _ _ _ _ _ _ _ _ _ _ _ _ rfl
def agC(p:Bool)(x y:O):again σ ⟨i,⟨d,g9,.Gy p x y⟩,tm,v,true,none⟩=true:=iY _ _ _ _ _ _ _ rfl rfl
def apV(k:Nat)(p:Bool)(x:O):uM dB bM (⟨i,us,os,⟨d,g9,.nil k p x⟩⟩::l) σ res pd K=qR g9 dB bM res us os σ pd i d (.nil k p x) l K:=pK E0 _ _ _ _ _ _ _ _ _ _ _ _ _ rfl
def apW(k:Nat)(p:Bool)(x:O):again σ ⟨i,⟨d,g9,.nil k p x⟩,tm,v,true,none⟩=true:=iY _ _ _ _ _ _ _ rfl rfl
def apX(x:O):uM dB bM (⟨i,us,os,⟨d,g9,.not x⟩⟩::l) σ res pd K=qR g9 dB bM res us os σ pd i d (.not x) l K:=pK E0 _ _ _ _ _ _ _ _ _ _ _ _ _ rfl
def apY(x:O):again σ ⟨i,⟨d,g9,.not x⟩,tm,v,true,none⟩=true:=iY _ _ _ _ _ _ _ rfl rfl
def ala(k:IntKind)(x:O):uM dB bM (⟨i,us,os,⟨d,g9,.conv k x⟩⟩::l) σ res pd K=qR g9 dB bM res us os σ pd i d (.conv k x) l K:=pK E0 _ _ _ _ _ _ _ _ _ _ _ _ _ rfl
def alb(k:IntKind)(x:O):again σ ⟨i,⟨d,g9,.conv k x⟩,tm,v,true,none⟩=true:=iY _ _ _ _ _ _ _ rfl rfl
def agD(z:List B)(ps:List (Nat×Nat×O)):uM dB bM (⟨i,us,os,⟨d,g9,.build z ps⟩⟩::l) σ res pd K=qR g9 dB bM res us os σ pd i d (.build z ps) l K:=pK E0 _ _ _ _ _ _ _ _ _ _ _ _ _ rfl
def agE(z:List B)(ps:List (Nat×Nat×O)):again σ ⟨i,⟨d,g9,.build z ps⟩,tm,v,true,none⟩=true:=iY _ _ _ _ _ _ _ rfl rfl
def alc(f:Nat)(cs:List O):uM dB bM (⟨i,us,os,⟨d,g9,.Pz f cs⟩⟩::l) σ res pd K=qR g9 dB bM res us os σ pd i d (.Pz f cs) l K:=pK E0 _ _ _ _ _ _ _ _ _ _ _ _ _ rfl
def ald(f:Nat)(cs:List O):again σ ⟨i,⟨d,g9,.Pz f cs⟩,tm,v,true,none⟩=true:=iY _ _ _ _ _ _ _ rfl rfl
def apZ(x:O):uM dB bM (⟨i,us,os,⟨d,g9,.len x⟩⟩::l) σ res pd K=qR g9 dB bM res us os σ pd i d (.len x) l K:=pK E0 _ _ _ _ _ _ _ _ _ _ _ _ _ rfl
def ap0(x:O):again σ ⟨i,⟨d,g9,.len x⟩,tm,v,true,none⟩=true:=iY _ _ _ _ _ _ _ rfl rfl
def agF(e:Nat)(x:O)(lo hi mx:Option O):uM dB bM (⟨i,us,os,⟨d,g9,.slice e x lo hi mx⟩⟩::l) σ res pd K=qR g9 dB bM res us os σ pd i d (.slice e x lo hi mx) l K:=pK E0 _ _ _ _ _ _ _ _ _ _ _ _ _ rfl
def agG(e:Nat)(x:O)(lo hi mx:Option O):again σ ⟨i,⟨d,g9,.slice e x lo hi mx⟩,tm,v,true,none⟩=true:=iY _ _ _ _ _ _ _ rfl rfl
def ale(x:O):uM dB bM (⟨i,us,os,⟨d,g9,.PD x⟩⟩::l) σ res pd K=qR g9 dB bM res us os σ pd i d (.PD x) l K:=pK E0 _ _ _ _ _ _ _ _ _ _ _ _ _ rfl
def alf(x:O):again σ ⟨i,⟨d,g9,.PD x⟩,tm,v,true,none⟩=true:=iY _ _ _ _ _ _ _ rfl rfl
def alg(x y:O):uM dB bM (⟨i,us,os,⟨d,g9,.min2 x y⟩⟩::l) σ res pd K=qR g9 dB bM res us os σ pd i d (.min2 x y) l K:=pK E0 _ _ _ _ _ _ _ _ _ _ _ _ _ rfl
def alh(x y:O):again σ ⟨i,⟨d,g9,.min2 x y⟩,tm,v,true,none⟩=true:=iY _ _ _ _ _ _ _ rfl rfl
end
def ap1{E:Env}{tm:Tr V}{σ:St}{Q:AX->Tr V->St->Prop}{d:Dr}{pt:List (List Nat)}{ds:List Nat}(h:V4 E pt tm (Zn tm ds) d σ [] [] λtm' σ'=>Q .normal tm' σ'):bH E (.drawn d pt ds) tm σ Q:=
 adp _ (I9 tm ds) h
section
variable {E:Env}
theorem ali{n:Nat}{op:vG}{tm:Tr V}{σ σ':St}{v:V}{K:V->St->Prop}(h:oC (iP E n) op tm σ=some (v,σ'))(hk:K v σ'):wpOp E op tm σ K:=by
 unfold wpOp;split
 .next g args=>
  unfold oC at h;simp only[vG.kind]at h;split at h
  .next f a e=>
   unfold aa5 at e;cases hg:g.ev tm with
   |fn f' caps=>
    dsimp only at e
    rw[hg]at e
    obtain⟨rfl,rfl⟩:=Prod.mk.inj (eA e)
    exact⟨n,v,σ',h,hk⟩
   |_=>grind
  .cases h
 .next hne=>
  have e:oC (λ_ _ _=>none) op tm σ=oC (iP E n) op tm σ:=by
   unfold oC;cases hk2:op.kind with
   |c=>cases op<;>simp only[vG.kind,reduceCtorEq]at hk2;grind
   |_=>rfl
  grind
def agH{n:Nat}{o:AO}{tm:Tr V}{σ σ':St}{v:V}{K:V->St->Prop}(h:stepG (iP E n) o tm σ=some (v,σ'))(hk:K v σ'):wpG E o tm σ K:=by grind[wpG,stepG,ali]
theorem Wv{n:Nat}:∀{l:List AO}{tm tm':Tr V}{σ σ':St}{Q:Tr V->St->Prop},su (iP E n) l tm σ=some (tm',σ')->Q tm' σ'->wpOps E l tm σ Q
 |[],_,_,_,_,_,h,hq=>by cases h;exact hq
 |o::l,tm,tm',σ,σ',Q,h,hq=>by
  unfold su at h;split at h
  .next v σ1 e=>
   rw[KF]at h;exact agH e (Wv h hq)
  .cases h
theorem agI{n:Nat}{pt:List (List Nat)}{dB bM:Tr V}:∀{d:Dr}{σ σ':St}{res:List Rs}{pd:List iK}{tm':Tr V}{Q:Tr V->St->Prop},BR (iP E n) pt dB bM d σ res pd=some (tm',σ')->Q tm' σ'->V4 E pt dB bM d σ res pd Q
 |.fin qs,σ,σ',res,pd,tm',Q,h,hq=>by grind[Go.Proofs.Xe.BR,Go.Proofs.Xe.V4]
 |.act qs x r,σ,σ',res,pd,tm',Q,h,hq=>by
  unfold BR at h;unfold V4;split at h
  .next σ1 res1 pd1 e=>
   rw[e];dsimp only;cases hb:pd1.all (again σ1)with
   |false=>rw[hb]at h;cases h
   |true=>
    rw[hb]at h
    simp only[cj]at h
    refine⟨rfl,?_⟩
    split at h
    .next VR e2=>
     rw[e2]
     dsimp only
     split at h
     .next v σ2 e3=>exact agH e3 (agI h hq)
     .cases h
    .cases h
  .cases h
end
section
variable (E:Env) (tm:Tr V) (σ:St) (Q:AX→Tr V→St→Prop)
def ap2(l:List AO):bH E (.ops l) tm σ Q=wpOps E l tm σ λtm' σ'=>Q .normal tm' σ':=by
 refine propext ⟨?_,akI⟩;rintro⟨n,e,tm',σ',h,hq⟩;cases n with
 |zero=>grind[exec]
 |succ n=>
  simp only[exec,VE]at h
  grind[Wv]
def atK(d:Dr)(pt:List (List Nat))(ds:List Nat):bH E (.drawn d pt ds) tm σ Q=V4 E pt tm (Zn tm ds) d σ [] [] λtm' σ'=>Q .normal tm' σ':=by
 refine propext ⟨?_,ap1⟩;rintro⟨n,e,tm',σ',h,hq⟩;cases n with
 |zero=>grind[exec]
 |succ n=>
  simp only[exec,xDr,VE,I9]at h
  grind[agI]
def seq_eq(a b:AC):bH E (.seq a b) tm σ Q=bH E a tm σ (Tq E b Q):=by
 refine propext ⟨?_,run_seq⟩;rintro⟨n,e,tm',σ',h,hq⟩;cases n with
 |zero=>grind[exec]
 |succ n=>
  rw[exec]at h
  cases hx:exec E n a tm σ with
  |none=>rw[hx]at h;cases h
  |some q=>
   rw[hx]at h
   obtain⟨e1,I4,σ1⟩:=q
   refine⟨n,e1,I4,σ1,hx,?_⟩
   cases e1 with
   |normal=>exact⟨n,e,tm',σ',h,hq⟩
   |exit i=>cases h;exact hq
   |ret=>cases h;exact hq
def agJ(i:Nat)(a:AC):bH E (.block i a) tm σ Q=bH E a tm σ (af4 i Q):=by
 refine propext ⟨?_,D7⟩;rintro⟨n,e,tm',σ',h,hq⟩;cases n with
 |zero=>grind[exec]
 |succ n=>
  rw[exec]at h
  cases hx:exec E n a tm σ with
  |none=>rw[hx]at h;cases h
  |some q=>
   rw[hx]at h
   obtain⟨e1,I4,σ1⟩:=q
   refine⟨n,e1,I4,σ1,hx,?_⟩
   cases e1 with
   |normal=>cases h;exact hq
   |exit j=>cases h;exact hq
   |ret=>cases h;exact hq
def alj:bH E .skip tm σ Q=Q .normal tm σ:=by
 refine propext ⟨?_,VZ⟩;rintro⟨n,e,tm',σ',h,hq⟩;cases n with
 |zero=>grind[exec]
 |succ n=>grind[exec]
def alk(i:Nat):bH E (.exit i) tm σ Q=Q (.exit i) tm σ:=by
 refine propext ⟨?_,af0⟩;rintro⟨n,e,tm',σ',h,hq⟩;cases n with
 |zero=>grind[exec]
 |succ n=>grind[exec]
def ap3:bH E .ret tm σ Q=Q .ret tm σ:=by
 refine propext ⟨?_,akG⟩;rintro⟨n,e,tm',σ',h,hq⟩;cases n with
 |zero=>grind[exec]
 |succ n=>grind[exec]
def ifV(v:V)(P:Bool->Prop):Prop:=match v with|.c (.bool t)=>P t|_=>False
def alm(x:O)(a b:AC):bH E (.cond x a b) tm σ Q=ifV (x.ev tm) λt=>bH E (bif t then a else b) tm σ Q:=by
 refine propext ⟨?_,λh=>?_⟩
 .rintro⟨n,e,tm',σ',h,hq⟩;cases n with
  |zero=>grind[exec]
  |succ n=>
   simp only[exec,aa7]at h
   split at h
   .next t e=>rw[e];exact⟨n,_,_,_,h,hq⟩
   .cases h
 .unfold ifV at h;grind[af2]
def ap4(a b:AC):bH E (bif true then a else b) tm σ Q=bH E a tm σ Q:=rfl
def ap5(a b:AC):bH E (bif false then a else b) tm σ Q=bH E b tm σ Q:=rfl
def aln(a b:AC):bH E (bif !true then a else b) tm σ Q=bH E b tm σ Q:=rfl
def alo(a b:AC):bH E (bif !false then a else b) tm σ Q=bH E a tm σ Q:=rfl
def agK(n:Nat)(b:AC)(r:List (Nat×Option (Nat×Bool))):bH E (AF.body ⟨n,b,r⟩) tm σ Q=bH E b tm σ Q:=rfl
def agL(P:Bool->Prop):ifV (.c (.bool true)) P=P true:=rfl
def adM(P:Bool->Prop):ifV (.c (.bool false)) P=P false:=rfl
def alp(b:Bool)(P:Bool->Prop):ifV (.c (.bool (!b))) P=ifV (.c (.bool b)) λt=>P (!t):=rfl
def aH{p:Prop}[Decidable p]{P:Bool->Prop}(h1:p->P true)(h2:¬p->P false):ifV (.c (.bool (decide p))) P:=by
 show P (decide p);by_cases h:p
 .grind
 grind
def atL{b:Bool}{P:Bool->Prop}(h1:b=true->P true)(h2:b=false->P false):ifV (.c (.bool b)) P:=by
 show P b;cases b with
 |true=>grind
 |false=>grind
def tick:Prop:=∀n:Nat,n=n
def adN:tick=True:=propext ⟨λ_=>trivial,λ_ _=>rfl⟩
@[congr] theorem asB {z:Prop} {v v' : V} {P:Bool→Prop} (hz:tick=z) (h:v=v'):ifV v P=ifV v' P:=by rw [h]
@[congr] theorem asC {z:Prop} {v v' : Option V} {P:V→Prop} (hz:tick=z) (h:v=v'):Gf v P=Gf v' P:=by rw [h]
@[congr] theorem ap6 {z:Prop} {c:AC} {tm tm' : Tr V} {σ σ' : St} {Q:AX→Tr V→St→Prop} (hz:tick=z) (h:tm=tm') (h2:σ=σ'):bH E c tm σ Q=bH E c tm' σ' Q:=by rw [h,h2]
@[congr] theorem anY {z:Prop} {c:List AO} {tm tm' : Tr V} {σ σ' : St} {Q:Tr V→St→Prop} (hz:tick=z) (h:tm=tm') (h2:σ=σ'):wpOps E c tm σ Q=wpOps E c tm' σ' Q:=by rw [h,h2]
@[congr] theorem asD {z:Prop} {c:AO} {tm tm' : Tr V} {σ σ' : St} {Q:V→St→Prop} (hz:tick=z) (h:tm=tm') (h2:σ=σ'):wpG E c tm σ Q=wpG E c tm' σ' Q:=by rw [h,h2]
@[congr] theorem ap7 {z:Prop} {c:vG} {tm tm' : Tr V} {σ σ' : St} {Q:V→St→Prop} (hz:tick=z) (h:tm=tm') (h2:σ=σ'):wpOp E c tm σ Q=wpOp E c tm' σ' Q:=by rw [h,h2]
@[congr] theorem anZ {z:Prop} {f:Nat} {a a' : List V} {σ σ' : St} {Q:V→St→Prop} (hz:tick=z) (h:a=a') (h2:σ=σ'):aC E f a σ Q=aC E f a' σ' Q:=by rw [h,h2]
@[congr] theorem asE {z:Prop} {dB bM:Tr V} {qs:List DO} {σ σ' : St} {res res' : List Rs} {pd pd' : List iK} {K:St→List Rs→List iK→Prop} (hz:tick=z) (h2:σ=σ') (h3:res=res') (h4:pd=pd'):uM dB bM qs σ res pd K=uM dB bM qs σ' res' pd' K:=by grind
@[congr] theorem asF {z:Prop} {pt:List (List Nat)} {dB bM:Tr V} {d:Dr} {σ σ' : St} {res res' : List Rs} {pd pd' : List iK} {K:Tr V→St→Prop} (hz:tick=z) (h2:σ=σ') (h3:res=res') (h4:pd=pd'):V4 E pt dB bM d σ res pd K=V4 E pt dB bM d σ' res' pd' K:=by grind
@[congr] theorem asG {z:Prop} {σ σ' : St} {pd pd' : List iK} (hz:tick=z) (h:σ=σ') (h2:pd=pd'):agn σ pd=agn σ' pd':=by rw [h,h2]
@[congr] theorem ap8 {z:Prop} {i i' : Nat} {o:AO} {tm:Tr V} {v:V} {g:Bool} {nm:Option Nat} (hz:tick=z) (h:i=i'):iK.mk i o tm v g nm=iK.mk i' o tm v g nm:=by rw [h]
@[congr] theorem an0 {z:Prop} {σ σ' : St} {p:iK} (hz:tick=z) (h:σ=σ'):again σ p=again σ' p:=by rw [h]
@[congr] theorem asH {z:Prop} {dB bM:Tr V} {res:List Rs} {us us' os:List Nat} (hz:tick=z) (h:us=us'):MG dB bM res us os=MG dB bM res us' os:=by rw [h]
@[congr] theorem ap9 {z:Prop} {bM:Tr V} {res:List Rs} {us us' : List Nat} (hz:tick=z) (h:us=us'):IV bM res us=IV bM res us':=by rw [h]
@[congr] theorem asI {z:Prop} {res:List Rs} {u u' : Nat} (hz:tick=z) (h:u=u'):fnd res u=fnd res u':=by rw [h]
@[congr] theorem an1 {z:Prop} {dB tm:Tr V} {os os' : List Nat} (hz:tick=z) (h:os=os'):EW dB tm os=EW dB tm os':=by rw [h]
@[congr] theorem aqa {z:Prop} {g:Option (Nat×Bool)} {tm:Tr V} {A B:Prop} (hz:tick=z):Bv g tm A B=Bv g tm A B:=rfl
@[congr] theorem asJ {z:Prop} {v v' : V} {b:Bool} {A B:Prop} (hz:tick=z) (h:v=v'):gsV v b A B=gsV v' b A B:=by rw [h]
@[congr] theorem atM {z:Prop} {g:Option (Nat×Bool)} {dB bM:Tr V} {res:List Rs} {us os:List Nat} {σ:St} {pd:List iK} {i:Nat} {d:Option Nat} {op:vG} {l:List DO} {K:St→List Rs→List iK→Prop} (hz:tick=z):qR g dB bM res us os σ pd i d op l K=qR g dB bM res us os σ pd i d op l K:=rfl
def alq(E:Env)(d:Option Nat)(g:Option (Nat×Bool))(op:vG)(tm:Tr V)(σ:St)(K:V->St->Prop):wpG E ⟨d,g,op⟩ tm σ K=Bv g tm (wpOp E op tm σ K) (K .tnil σ):=rfl
def aqb(x:O)(K:V->St->Prop):wpOp E (.mov x) tm σ K=Gf (some (x.ev tm)) λv=>K v σ:=rfl
def aqc(b:AC):Tq E b Q .normal tm σ=bH E b tm σ Q:=rfl
def aqd(b:AC)(i:Nat):Tq E b Q (.exit i) tm σ=Q (.exit i) tm σ:=rfl
def aqe(b:AC):Tq E b Q .ret tm σ=Q .ret tm σ:=rfl
def aqf(i:Nat):af4 i Q .normal tm σ=Q .normal tm σ:=rfl
def aqg(i j:Nat):af4 i Q (.exit j) tm σ=Q (bif Nat.beq j i then .normal else .exit j) tm σ:=rfl
def aqh(i:Nat):af4 i Q .ret tm σ=Q .ret tm σ:=rfl
variable (I:Nat→Tr V→St→Prop) (m:Nat) (res:List (Nat×Option (Nat×Bool))) (K:V→St→Prop)
def aqi:akH I m Q .normal tm σ=∃m',m'<m/\I m' tm σ:=rfl
def aqj(i:Nat):akH I m Q (.exit i) tm σ=Q (.exit i) tm σ:=rfl
def aqk:akH I m Q .ret tm σ=Q .ret tm σ:=rfl
def alr:Zi res K .normal tm σ=Gf (result tm σ res) λv=>K v σ:=by unfold Zi Gf;grind
def aql:Zi res K .ret tm σ=Gf (result tm σ res) λv=>K v σ:=by unfold Zi Gf;grind
end
def aqm(p q:Rat):decide (pV p q<0)=decide (p<q):=by
 by_cases h:p<q
 .rw[bw h,bw];exact qg.mpr h
 .rw[aw h,aw];exact λe=>h (qg.mp e)
def agM(tm:Tr V)(d:Nat)(v:V):Tr.get (Ew tm (some d) v) d=some v:=by grind[Ew,Tr.tJ]
def aqn(tm:Tr V)(d j:Nat)(v:V)(h:j≠d):Tr.get (Ew tm (some d) v) j=Tr.get tm j:=by grind[Ew,Tr.tJ]
def Zr(tm:Tr V)(σ:St):oM tm σ []=some .tnil:=rfl
def agN(tm:Tr V)(σ:St)(t:Nat)(r:List (Nat×Option (Nat×Bool))):oM tm σ ((t,none)::r)=match tm.get t,oM tm σ r with|some v,some w=>some (.aY v w)|_,_=>none:=rfl
def agO(tm:Tr V)(σ:St)(t n:Nat)(g:Bool)(r:List (Nat×Option (Nat×Bool))):oM tm σ ((t,some (n,g))::r)=match(match tm.ah t with|.c (.ptr b o)=>ld σ.h b o n g|_=>none),oM tm σ r with|some v,some w=>some (.aY v w)|_,_=>none:=rfl
def Fr.new1{σ:St}{h:Tr Bk}{n:Nat}{k:Bk}(hf:Fr σ ⟨h,n⟩):Fr σ ⟨hset h n k,n+1⟩:=Fr.new hf k
def Fr.set1{σ:St}{h:Tr Bk}{n b:Nat}{k:Bk}(hf:Fr σ ⟨h,n⟩)(h1:σ.aj<=b)(h2:b<n):Fr σ ⟨hset h b k,n⟩:=Fr.set hf h1 h2 k
def au{h:Tr Bk}{b:Nat}{k:Bk}(e:h b=some k)(o n:Nat)(g:Bool):ld h b o n g=bif k.rd then zk k.cells o n g else none:=by unfold ld;rw[e]
def aI{h:Tr Bk}{b:Nat}{k:Bk}(e:h b=some k)(o:Nat)(vs:List B):sto h b o vs=match bif k.pl then xQ k.cells o vs else none with|some l=>some (hset h b ⟨l,k.opn⟩)|none=>none:=by grind[sto]
def plo(o:Option (Nat×Nat)):Bool:=match o with|some (0,_)=>false|_=>true
def Yx(o:Option (Nat×Nat)):Bool:=match o with|some (0,t)=>Nat.beq t 1|_=>true
def aqo(k:Bk):k.pl=plo k.opn:=rfl
def Nu(k:Bk):k.rd=Yx k.opn:=rfl
def agP:plo none=true:=rfl
def agQ:Yx none=true:=rfl
def an2(e t:Nat)(h:e≠0):plo (some (e,t))=true:=by cases e with|zero=>omega|succ e=>rfl
def CB(e t:Nat)(h:e≠0):Yx (some (e,t))=true:=by cases e with|zero=>omega|succ e=>rfl
def atN:Yx (some (0,1))=true:=rfl
def agR(k:IntKind)(n:Int):B.kn (.int k n)=true:=rfl
theorem vT(b:Bool):B.kn (.bool b)=true:=rfl
theorem Ai(s:ByteArray):B.kn (.str s)=true:=rfl
def aqp(b o:Nat):B.kn (.ptr b o)=true:=rfl
def als:B.kn .SL=true:=rfl
def atO(b o n:Nat)(c:Cap):B.kn (.sl b o n c)=true:=rfl
def alu:B.kn .aV=true:=rfl
def atP(b:Nat):B.kn (.mp b)=true:=rfl
def HL.kn{h:Tr Bk}{e:Nat}{v:B}{n:Nat}{G:Nat->List B}(hl:HL h e v n G):v.kn=true:=by rcases hl with⟨-,rfl⟩|⟨b,o,c,rfl,-⟩<;>rfl
def HC.kn{h:Tr Bk}{v:B}{n:Nat}{G:Nat->B}(hl:HC h v n G):v.kn=true:=by rcases hl with⟨-,rfl⟩|⟨b,o,c,rfl,-⟩<;>rfl
def atQ(x:B)(l:List B)(o n:Nat):zk (x::l) o n true=bif Nat.beq (((x::l).drop o).take n).length n&&(((x::l).drop o).take n).all B.kn then some (.agg (((x::l).drop o).take n))else none:=rfl
def atS(x:B)(l:List B)(o n:Nat):zk (x::l) o n false=match(x::l).drop o with|x::_=>bif x.kn then some (.c x)else none|[]=>none:=rfl
def atT(x:B)(l vs:List B):xQ (x::l) 0 vs=bif Nat.ble vs.length (x::l).length then some (vs++(x::l).drop vs.length)else none:=by rw[xQ]
def atU(x:B)(l:List B)(o:Nat)(vs:List B):xQ (x::l) (o+1) vs=match xQ l o vs with|some r=>some (x::r)|none=>none:=by rfl
def agS(a b:Nat):(Int.ofNat a=Int.ofNat b)=(a=b):=propext ⟨gd,λe=>by rw[e]⟩
def eq_neg(a b:Nat):(Int.ofNat a=Int.negSucc b)=False:=by simp
def atV[h:Decidable True]: @decide True h=true:=by simp
def atW[h:Decidable False]: @decide False h=false:=by simp
attribute [go_sem] adN aln alo ap4 ap5 agK adF wpOps_cons agf apq o_load akP akQ akR apr atq aps apt apu apv atr att atu atv atw atx aty apw apx atz atA atB akS akT apy atD atC atE akU BQ apz Y3 atF akO adE apA akV atG apB JL rep atH akW apC awy awz adu akM adv adw adx ady adz adA adB V.cells akN atp agd apo aA awC awD cG dC Bool.and_true Bool.true_and List.drop_succ_cons gp fT cF bV List.length_nil Nat.reduceAdd cN cB Wp Ns uo Fa ak dp List.nil_append gx List.map_cons List.map_nil result agc aG ak3 ak4 akZ apN ak7 ak9 agt agv agx apP apR apT agz agB apV apX ala agD alc apZ agF ale alg adJ ak0 ak1 apD agj adG agk akX agl adH Zo agm adI agi ak2 agp apO ak8 agu agw agy apQ apS apU agA agC apW apY alb agE ald ap0 agG alf alh Zq Wu adL ak5 atI Zp adK List.contains_cons List.contains_nil Nat.reduceBEq Bool.or_false Bool.or_true Bool.false_or Bool.true_or cj fh List.getD_cons_zero List.getD_cons_succ am and_true alq apE apG apI apJ apL apM akY atJ ak6 aqb ap2 atK seq_eq agJ alj alk ap3 alm agL adM alp aqc aqd aqe aqf aqg aqh aqi aqj aqk alr aql aqm agR vT Ai aqp als atO alu atP atQ atS atT atU agS eq_neg atV atW aqo Nu agP agQ an2 CB atN agM aqn Zr agN agO atm Zl Zm agb adt atn ato apk aga atj apj af9 ads Wi apg V9 aph Wh adr atl akK abf apl Wn apm apn akL Wj
end Go.Proofs.Xe
