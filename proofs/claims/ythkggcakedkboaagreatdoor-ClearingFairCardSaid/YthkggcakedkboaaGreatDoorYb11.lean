import Derived.Test.YthkggcakedkboaaGreatDoorYb10
import Derived.Attr
set_option linter.all false
namespace Go.Proofs.Xe
open Go.RowKit Go.Proofs.Ins
noncomputable def ZM(tm:Tr V):List Nat->Tr V
 |[]=>tm
 |d::l=>(ZM tm l).set d none
def Jf(tm:Tr V):∀ds,Ak tm ds=some (ZM tm ds)
 |[]=>rfl
 |d::l=>by unfold Ak;rw[Jf tm l];rfl
theorem abG(tm:Tr V)(j:Nat):∀ds:List Nat,ds.contains j=false->(ZM tm ds).get j=tm.get j
 |[],_=>rfl
 |d::l,h=>by rw[List.contains_cons,Bool.or_eq_false_iff]at h;show((ZM tm l).set d none).get j=_;rw[Tr.tX,ae (by simpa using h.1),abG tm j l h.2]
def agJ(tm:Tr V)(ds:List Nat)(j:Nat)(h:ds.contains j=false):Tr.ah (ZM tm ds) j=Tr.ah tm j:=by grind[Tr.ah,abG]
def fnd:List Rs->Nat->Option Rs
 |[],_=>none
 |r::l,u=>bif Nat.beq r.i u then some r else fnd l u
def WO(u:Nat):∀l:List Rs,l.find? (λr=>Nat.beq r.i u)=fnd l u
 |[]=>rfl
 |r::l=>by rw[List.find?_cons,fnd,WO u l];cases Nat.beq r.i u<;>rfl
noncomputable def tmO:Option (Tr V)->Option Rs->Option (Tr V)
 |some tm,some r=>some (Ew tm r.d r.v)
 |_,_=>none
def agK(bU:Tr V)(res:List Rs):I5 bU res []=some bU:=rfl
def aec(bU:Tr V)(res:List Rs)(u:Nat)(us:List Nat):I5 bU res (u::us)=tmO (I5 bU res us) (fnd res u):=by
 rw[I5,WO];cases I5 bU res us with
 |none=>rfl
 |some tm=>
  cases fnd res u with
  |none=>rfl
  |some r=>show I4 tm r.d r.v=_;rw[KI];rfl
def agL(tm:Tr V)(i:Nat)(d:Option Nat)(v:V):tmO (some tm) (some ⟨i,d,v⟩)=some (Ew tm d v):=rfl
def aly(i:Nat)(d:Option Nat)(v:V)(l:List Rs):fnd (⟨i,d,v⟩::l) i=some ⟨i,d,v⟩:=by unfold fnd;simp
def agM(i u:Nat)(d:Option Nat)(v:V)(l:List Rs)(h:i≠u):fnd (⟨i,d,v⟩::l) u=fnd l u:=by grind[fnd,ND]
def aed(dI tm:Tr V):E5 dI tm []=some tm:=rfl
def ZN(dI tm:Tr V)(t:Nat)(l:List Nat):E5 dI tm (t::l)=match E5 dI tm l with|some tm=>some (Ew tm (some t) (dI.ah t))|none=>none:=by rfl
def aqk(dI bU:Tr V)(res:List Rs)(us os:List Nat):MQ dI bU res us os=match I5 bU res us with|some tm=>E5 dI tm os|none=>none:=rfl
def agN(bU:Tr V):J9 bU []=some bU:=rfl
def aee(bU:Tr V)(i:Nat)(d:Option Nat)(v:V)(l:List Rs):J9 bU (⟨i,d,v⟩::l)=match J9 bU l with|some tm=>some (Ew tm d v)|none=>none:=by grind[J9,KI]
def Bo(g:Option (Nat×Bool))(tm:Tr V)(A B:Prop):Prop:=match gate g tm with|some true=>A|some false=>B|none=>False
def gsV(v:V)(b:Bool)(A B:Prop):Prop:=match v with|.c (.bool c)=>(bif c==b then A else B)|.tnil=>B|_=>False
def aql(tm:Tr V)(A B:Prop):Bo none tm A B=A:=rfl
def aqm(t:Nat)(b:Bool)(tm:Tr V)(A B:Prop):Bo (some (t,b)) tm A B=gsV (tm.ah t) b A B:=by grind[Bo,gsV,gate]
def aqn(A B:Prop):gsV (.c (.bool true)) true A B=A:=rfl
def aqo(A B:Prop):gsV (.c (.bool true)) false A B=B:=rfl
def aqp(A B:Prop):gsV (.c (.bool false)) true A B=B:=rfl
def aqr(A B:Prop):gsV (.c (.bool false)) false A B=A:=rfl
def alz(b:Bool)(A B:Prop):gsV .tnil b A B=B:=rfl
def abH{p:Prop}[Decidable p]{A B:Prop}(h1:p->A)(h2:¬p->B):gsV (.c (.bool (decide p))) true A B:=by
 by_cases h:p
 .rw[bj h];exact h1 h
 .rw[aw h];exact h2 h
def WQ{p:Prop}[Decidable p]{A B:Prop}(h1:p->B)(h2:¬p->A):gsV (.c (.bool (decide p))) false A B:=by
 by_cases h:p
 .rw[bj h];exact h1 h
 .rw[aw h];exact h2 h
def uP(dI bU:Tr V)(qs:List DO)(σ:St)(res:List Rs)(pd:List iM)(K:St->List Rs->List iM->Prop):Prop:=
 match xQ dI bU qs σ res pd with
 |some (σ,res,pd)=>K σ res pd
 |none=>False
def alA(dI bU:Tr V)(σ:St)(res:List Rs)(pd:List iM)(K:St->List Rs->List iM->Prop):uP dI bU [] σ res pd K=K σ res pd:=rfl
section
variable (E:Env) (pt:List (List Nat)) (dI bU:Tr V) (σ:St) (res:List Rs) (pd:List iM)
def pX(i:Nat)(us os:List Nat)(d:Option Nat)(g:Option (Nat×Bool))(op:vJ)(l:List DO)(K:St->List Rs->List iM->Prop)(h:op.kind=.q):
  uP dI bU (⟨i,us,os,⟨d,g,op⟩⟩::l) σ res pd K=match MQ dI bU res us os with
   |some tm=>Bo g tm (wpOp E op tm σ λv _=>uP dI bU l σ (⟨i,d,v⟩::res) (⟨i,⟨d,g,op⟩,tm,v,true,none⟩::pd) K) (uP dI bU l σ (⟨i,d,.tnil⟩::res) (⟨i,⟨d,g,op⟩,tm,.tnil,false,none⟩::pd) K)
   |none=>False:=by
 unfold uP Bo
 rw[xQ]
 dsimp only
 cases MQ dI bU res us os with
 |none=>rfl
 |some tm=>
  dsimp only
  have hc:∀g l,op≠.call g l:=λg l e=>by rw[e]at h;cases h
  grind[iD,Gi]
def aef(i:Nat)(us os:List Nat)(d:Option Nat)(g:Option (Nat×Bool))(z:List B)(l:List DO)(K:St->List Rs->List iM->Prop):
  uP dI bU (⟨i,us,os,⟨d,g,.alloc z⟩⟩::l) σ res pd K=match MQ dI bU res us os with
   |some tm=>Bo g tm (uP dI bU l ⟨hset σ.h σ.aj ⟨z,none⟩,σ.aj+1⟩ (⟨i,d,.c (.ptr σ.aj 0)⟩::res) (⟨i,⟨d,g,.alloc z⟩,tm,.c (.ptr σ.aj 0),true,some σ.aj⟩::pd) K)
    (uP dI bU l σ (⟨i,d,.tnil⟩::res) (⟨i,⟨d,g,.alloc z⟩,tm,.tnil,false,none⟩::pd) K)
   |none=>False:=by
 unfold uP Bo
 rw[xQ]
 dsimp only
 cases MQ dI bU res us os with
 |none=>rfl
 |some tm=>
  grind[vJ.kind,ng,jM]
def alB(i:Nat)(us os:List Nat)(d:Option Nat)(g:Option (Nat×Bool))(x:O)(l:List DO)(K:St->List Rs->List iM->Prop):
  uP dI bU (⟨i,us,os,⟨d,g,.box x⟩⟩::l) σ res pd K=match MQ dI bU res us os with
   |some tm=>Bo g tm (match(x.ev tm).cells with
    |some z=>uP dI bU l ⟨hset σ.h σ.aj ⟨z,none⟩,σ.aj+1⟩ (⟨i,d,.c (.ptr σ.aj 0)⟩::res) (⟨i,⟨d,g,.box x⟩,tm,.c (.ptr σ.aj 0),true,some σ.aj⟩::pd) K
    |none=>False) (uP dI bU l σ (⟨i,d,.tnil⟩::res) (⟨i,⟨d,g,.box x⟩,tm,.tnil,false,none⟩::pd) K)
   |none=>False:=by
 unfold uP Bo
 rw[xQ]
 dsimp only
 cases MQ dI bU res us os with
 |none=>rfl
 |some tm=>
  grind[vJ.kind,ng,jM]
def alC(i:Nat)(us os:List Nat)(d:Option Nat)(g:Option (Nat×Bool))(e n:Nat)(z:List B)(ps:List (Nat×Nat×O))(l:List DO)(K:St->List Rs->List iM->Prop)(hn:n*e<=16777216)(hn2:n<=16777216):
  uP dI bU (⟨i,us,os,⟨d,g,.bsl e n z ps⟩⟩::l) σ res pd K=match MQ dI bU res us os with
   |some tm=>Bo g tm (match BP (rep z n) (ps.map λp=>(p.1,p.2.1,p.2.2.ev tm))with
    |some c=>uP dI bU l ⟨hset σ.h σ.aj ⟨c,none⟩,σ.aj+1⟩ (⟨i,d,.c (.sl σ.aj 0 n (.ex n))⟩::res) (⟨i,⟨d,g,.bsl e n z ps⟩,tm,.c (.sl σ.aj 0 n (.ex n)),true,some σ.aj⟩::pd) K
    |none=>False) (uP dI bU l σ (⟨i,d,.tnil⟩::res) (⟨i,⟨d,g,.bsl e n z ps⟩,tm,.tnil,false,none⟩::pd) K)
   |none=>False:=by
 unfold uP Bo
 rw[xQ]
 dsimp only
 cases MQ dI bU res us os with
 |none=>rfl
 |some tm=>
  grind[vJ.kind,ng,vN,jM]
def agn(σ:St):List iM->Prop
 |[]=>True
 |p::l=>again σ p=true/\agn σ l
theorem TR(σ:St):∀l:List iM,(l.all (again σ)=true)=agn σ l
 |[]=>by simp[agn]
 |p::l=>by rw[cY,af,TR σ l];rfl
def alD(σ:St):agn σ []=True:=rfl
def agO(σ:St)(p:iM)(l:List iM):agn σ (p::l)=(again σ p=true/\agn σ l):=rfl
def aeg(l:List Nat):List iM->List iM
 |[]=>[]
 |p::pd=>bif l.contains p.i then aeg l pd else p::aeg l pd
theorem agP(l:List Nat):∀pd:List iM,pd.filter (λp=>!(l.contains p.i))=aeg l pd
 |[]=>rfl
 |p::pd=>by rw[List.filter_cons,aeg,agP l pd];cases l.contains p.i<;>rfl
def alE(qs:List DO)(Q:Tr V->St->Prop):WA E pt dI bU (.fin qs) σ res pd Q=uP dI bU qs σ res pd λσ res pd=>agn σ pd/\(match J9 bU res with|some tm=>Q tm σ|none=>False):=by grind[WA,uP,TR]
def alF(qs:List DO)(i:Nat)(us os:List Nat)(d:Option Nat)(g:Option (Nat×Bool))(op:vJ)(r:Dr)(Q:Tr V->St->Prop):
  WA E pt dI bU (.act qs ⟨i,us,os,⟨d,g,op⟩⟩ r) σ res pd Q=uP dI bU qs σ res pd λσ res pd=>agn σ pd/\(match MQ dI bU res us os with
   |some tm=>wpG E ⟨d,g,op⟩ tm σ λv σ'=>WA E pt dI bU r σ' (⟨i,d,v⟩::res) (aeg (pt.getD i []) pd) Q
   |none=>False):=by
 grind[WA,uP,TR,agP]
def agQ(b:B):adE b b=b.kn:=by
 cases b<;>simp[adE,B.kn]
 case int k n=>cases n<;>simp[eqI]
 case sl b o n c=>cases c<;>simp[eqC]
def ZO:∀l:List B,MP l l=l.all B.kn
 |[]=>rfl
 |b::l=>by rw[cY];unfold MP;rw[agQ b,ZO l]
def alG(l:List B):eqV (.agg l) (.agg l)=l.all B.kn:=ZO l
def auy(b:B):eqV (.c b) (.c b)=b.kn:=agQ b
def jd(i:Nat)(d:Option Nat)(g9:Option (Nat×Bool))(op:vJ)(tm:Tr V)(v:V)(h:op.kind=.q)(h2:op.looks=false):again σ ⟨i,⟨d,g9,op⟩,tm,v,true,none⟩=true:=by grind[again]
def ZP(i:Nat)(d:Option Nat)(g9:Option (Nat×Bool))(n:Nat)(g:Bool)(x:O)(tm:Tr V)(v:V):again σ ⟨i,⟨d,g9,.load n g x⟩,tm,v,true,none⟩=match(match x.ev tm with|.c (.ptr b o)=>ld σ.h b o n g|_=>none)with|some u=>eqV u v|none=>false:=by rfl
def WR(i:Nat)(d:Option Nat)(g9:Option (Nat×Bool))(z:List B)(tm:Tr V)(v:V)(b:Nat):again σ ⟨i,⟨d,g9,.alloc z⟩,tm,v,true,some b⟩=match σ.h b with|some ⟨c,none⟩=>MP c z|_=>false:=by rfl
def aeh(i:Nat)(d:Option Nat)(g9:Option (Nat×Bool))(e n:Nat)(z:List B)(ps:List (Nat×Nat×O))(tm:Tr V)(v:V)(b:Nat)(hn:n*e<=16777216)(hn2:n<=16777216):again σ ⟨i,⟨d,g9,.bsl e n z ps⟩,tm,v,true,some b⟩=match BP (rep z n) (ps.map λp=>(p.1,p.2.1,p.2.2.ev tm))with|some z=>(match σ.h b with|some ⟨c,none⟩=>MP c z|_=>false)|none=>false:=by grind[again,vJ.kind,ng,vN]
end
def alH(σ:St)(i:Nat)(o:AO)(tm:Tr V)(v:V)(nm:Option Nat):again σ ⟨i,o,tm,v,false,nm⟩=true:=rfl
section
def E0:Env:=⟨λ_=>none,λ_ _ _=>none⟩
variable (dI bU tm:Tr V) (σ:St) (res:List Rs) (pd:List iM) (i:Nat) (us os:List Nat) (d:Option Nat) (g9:Option (Nat×Bool)) (l:List DO) (K:St→List Rs→List iM→Prop) (v:V)
def qR(g:Option (Nat×Bool))(dI bU:Tr V)(res:List Rs)(us os:List Nat)(σ:St)(pd:List iM)(i:Nat)(d:Option Nat)(op:vJ)(l:List DO)(K:St->List Rs->List iM->Prop):Prop:=match MQ dI bU res us os with
 |some tm=>Bo g tm (wpOp E0 op tm σ λv _=>uP dI bU l σ (⟨i,d,v⟩::res) (⟨i,⟨d,g,op⟩,tm,v,true,none⟩::pd) K) (uP dI bU l σ (⟨i,d,.tnil⟩::res) (⟨i,⟨d,g,op⟩,tm,.tnil,false,none⟩::pd) K)
 |none=>False
def auz(g:Option (Nat×Bool))(dI bU:Tr V)(res:List Rs)(us os:List Nat)(σ:St)(pd:List iM)(i:Nat)(d:Option Nat)(op:vJ)(l:List DO)(K:St->List Rs->List iM->Prop):qR g dI bU res us os σ pd i d op l K=match MQ dI bU res us os with
 |some tm=>Bo g tm (wpOp E0 op tm σ λv _=>uP dI bU l σ (⟨i,d,v⟩::res) (⟨i,⟨d,g,op⟩,tm,v,true,none⟩::pd) K) (uP dI bU l σ (⟨i,d,.tnil⟩::res) (⟨i,⟨d,g,op⟩,tm,.tnil,false,none⟩::pd) K)
 |none=>False:=rfl
def aqs(x:O):uP dI bU (⟨i,us,os,⟨d,g9,.mov x⟩⟩::l) σ res pd K=qR g9 dI bU res us os σ pd i d (.mov x) l K:=pX E0 _ _ _ _ _ _ _ _ _ _ _ _ _ rfl
def aqt(x:O):again σ ⟨i,⟨d,g9,.mov x⟩,tm,v,true,none⟩=true:=jd _ _ _ _ _ _ _ rfl rfl
def alI(c a b:O):uP dI bU (⟨i,us,os,⟨d,g9,.pick c a b⟩⟩::l) σ res pd K=qR g9 dI bU res us os σ pd i d (.pick c a b) l K:=pX E0 _ _ _ _ _ _ _ _ _ _ _ _ _ rfl
def alJ(c a b:O):again σ ⟨i,⟨d,g9,.pick c a b⟩,tm,v,true,none⟩=true:=jd _ _ _ _ _ _ _ rfl rfl
def alK(n:Nat)(g:Bool)(x:O):uP dI bU (⟨i,us,os,⟨d,g9,.load n g x⟩⟩::l) σ res pd K=qR g9 dI bU res us os σ pd i d (.load n g x) l K:=pX E0 _ _ _ _ _ _ _ _ _ _ _ _ _ rfl
def agR(n:Nat)(x:O):uP dI bU (⟨i,us,os,⟨d,g9,.BO n x⟩⟩::l) σ res pd K=qR g9 dI bU res us os σ pd i d (.BO n x) l K:=pX E0 _ _ _ _ _ _ _ _ _ _ _ _ _ rfl
def agS(n:Nat)(x:O):again σ ⟨i,⟨d,g9,.BO n x⟩,tm,v,true,none⟩=true:=jd _ _ _ _ _ _ _ rfl rfl
def agT(o n:Nat)(g:Bool)(x:O):uP dI bU (⟨i,us,os,⟨d,g9,.field o n g x⟩⟩::l) σ res pd K=qR g9 dI bU res us os σ pd i d (.field o n g x) l K:=pX E0 _ _ _ _ _ _ _ _ _ _ _ _ _ rfl
def agU(o n:Nat)(g:Bool)(x:O):again σ ⟨i,⟨d,g9,.field o n g x⟩,tm,v,true,none⟩=true:=jd _ _ _ _ _ _ _ rfl rfl
def agV(e:Nat)(x j:O):uP dI bU (⟨i,us,os,⟨d,g9,.EU e x j⟩⟩::l) σ res pd K=qR g9 dI bU res us os σ pd i d (.EU e x j) l K:=pX E0 _ _ _ _ _ _ _ _ _ _ _ _ _ rfl
def agW(e:Nat)(x j:O):again σ ⟨i,⟨d,g9,.EU e x j⟩,tm,v,true,none⟩=true:=jd _ _ _ _ _ _ _ rfl rfl
def aqu(n:Nat)(x:O):uP dI bU (⟨i,us,os,⟨d,g9,.ext n x⟩⟩::l) σ res pd K=qR g9 dI bU res us os σ pd i d (.ext n x) l K:=pX E0 _ _ _ _ _ _ _ _ _ _ _ _ _ rfl
def aqv(n:Nat)(x:O):again σ ⟨i,⟨d,g9,.ext n x⟩,tm,v,true,none⟩=true:=jd _ _ _ _ _ _ _ rfl rfl
def aqw(b:BinOp)(x y:O):uP dI bU (⟨i,us,os,⟨d,g9,.bin b x y⟩⟩::l) σ res pd K=qR g9 dI bU res us os σ pd i d (.bin b x y) l K:=pX E0 _ _ _ _ _ _ _ _ _ _ _ _ _ rfl
def aqx(b:BinOp)(x y:O):again σ ⟨i,⟨d,g9,.bin b x y⟩,tm,v,true,none⟩=true:=jd _ _ _ _ _ _ _ rfl rfl
def aqy(p:Bool)(x y:O):uP dI bU (⟨i,us,os,⟨d,g9,.eqb p x y⟩⟩::l) σ res pd K=qR g9 dI bU res us os σ pd i d (.eqb p x y) l K:=pX E0 _ _ _ _ _ _ _ _ _ _ _ _ _ rfl
def aqz(p:Bool)(x y:O):again σ ⟨i,⟨d,g9,.eqb p x y⟩,tm,v,true,none⟩=true:=jd _ _ _ _ _ _ _ rfl rfl
def agX(p:Bool)(x y:O):uP dI bU (⟨i,us,os,⟨d,g9,.EW p x y⟩⟩::l) σ res pd K=qR g9 dI bU res us os σ pd i d (.EW p x y) l K:=pX E0 _ _ _ _ _ _ _ _ _ _ _ _ _ rfl
def agY(p:Bool)(x y:O):again σ ⟨i,⟨d,g9,.EW p x y⟩,tm,v,true,none⟩=true:=jd _ _ _ _ _ _ _ rfl rfl
def agZ(p:Bool)(x y:O):uP dI bU (⟨i,us,os,⟨d,g9,.GN p x y⟩⟩::l) σ res pd K=qR g9 dI bU res us os σ pd i d (.GN p x y) l K:=pX E0 _ _ _ _ _ _ _ _ _ _ _ _ _ rfl
def ag0(p:Bool)(x y:O):again σ ⟨i,⟨d,g9,.GN p x y⟩,tm,v,true,none⟩=true:=jd _ _ _ _ _ _ _ rfl rfl
def aqA(k:Nat)(p:Bool)(x:O):uP dI bU (⟨i,us,os,⟨d,g9,.nil k p x⟩⟩::l) σ res pd K=qR g9 dI bU res us os σ pd i d (.nil k p x) l K:=pX E0 _ _ _ _ _ _ _ _ _ _ _ _ _ rfl
def aqB(k:Nat)(p:Bool)(x:O):again σ ⟨i,⟨d,g9,.nil k p x⟩,tm,v,true,none⟩=true:=jd _ _ _ _ _ _ _ rfl rfl
def aqC(x:O):uP dI bU (⟨i,us,os,⟨d,g9,.not x⟩⟩::l) σ res pd K=qR g9 dI bU res us os σ pd i d (.not x) l K:=pX E0 _ _ _ _ _ _ _ _ _ _ _ _ _ rfl
def aqD(x:O):again σ ⟨i,⟨d,g9,.not x⟩,tm,v,true,none⟩=true:=jd _ _ _ _ _ _ _ rfl rfl
def alL(k:IntKind)(x:O):uP dI bU (⟨i,us,os,⟨d,g9,.conv k x⟩⟩::l) σ res pd K=qR g9 dI bU res us os σ pd i d (.conv k x) l K:=pX E0 _ _ _ _ _ _ _ _ _ _ _ _ _ rfl
def alM(k:IntKind)(x:O):again σ ⟨i,⟨d,g9,.conv k x⟩,tm,v,true,none⟩=true:=jd _ _ _ _ _ _ _ rfl rfl
def ag1(z:List B)(ps:List (Nat×Nat×O)):uP dI bU (⟨i,us,os,⟨d,g9,.build z ps⟩⟩::l) σ res pd K=qR g9 dI bU res us os σ pd i d (.build z ps) l K:=pX E0 _ _ _ _ _ _ _ _ _ _ _ _ _ rfl
def ag2(z:List B)(ps:List (Nat×Nat×O)):again σ ⟨i,⟨d,g9,.build z ps⟩,tm,v,true,none⟩=true:=jd _ _ _ _ _ _ _ rfl rfl
def alN(f:Nat)(cs:List O):uP dI bU (⟨i,us,os,⟨d,g9,.PW f cs⟩⟩::l) σ res pd K=qR g9 dI bU res us os σ pd i d (.PW f cs) l K:=pX E0 _ _ _ _ _ _ _ _ _ _ _ _ _ rfl
def alO(f:Nat)(cs:List O):again σ ⟨i,⟨d,g9,.PW f cs⟩,tm,v,true,none⟩=true:=jd _ _ _ _ _ _ _ rfl rfl
def aqE(x:O):uP dI bU (⟨i,us,os,⟨d,g9,.len x⟩⟩::l) σ res pd K=qR g9 dI bU res us os σ pd i d (.len x) l K:=pX E0 _ _ _ _ _ _ _ _ _ _ _ _ _ rfl
def aqF(x:O):again σ ⟨i,⟨d,g9,.len x⟩,tm,v,true,none⟩=true:=jd _ _ _ _ _ _ _ rfl rfl
def ag3(e:Nat)(x:O)(lo hi mx:Option O):uP dI bU (⟨i,us,os,⟨d,g9,.slice e x lo hi mx⟩⟩::l) σ res pd K=qR g9 dI bU res us os σ pd i d (.slice e x lo hi mx) l K:=pX E0 _ _ _ _ _ _ _ _ _ _ _ _ _ rfl
def ag4(e:Nat)(x:O)(lo hi mx:Option O):again σ ⟨i,⟨d,g9,.slice e x lo hi mx⟩,tm,v,true,none⟩=true:=jd _ _ _ _ _ _ _ rfl rfl
def alP(x:O):uP dI bU (⟨i,us,os,⟨d,g9,.PX x⟩⟩::l) σ res pd K=qR g9 dI bU res us os σ pd i d (.PX x) l K:=pX E0 _ _ _ _ _ _ _ _ _ _ _ _ _ rfl
def alQ(x:O):again σ ⟨i,⟨d,g9,.PX x⟩,tm,v,true,none⟩=true:=jd _ _ _ _ _ _ _ rfl rfl
def alR(x y:O):uP dI bU (⟨i,us,os,⟨d,g9,.min2 x y⟩⟩::l) σ res pd K=qR g9 dI bU res us os σ pd i d (.min2 x y) l K:=pX E0 _ _ _ _ _ _ _ _ _ _ _ _ _ rfl
def alS(x y:O):again σ ⟨i,⟨d,g9,.min2 x y⟩,tm,v,true,none⟩=true:=jd _ _ _ _ _ _ _ rfl rfl
end
def aqG{E:Env}{tm:Tr V}{σ:St}{Q:AX->Tr V->St->Prop}{d:Dr}{pt:List (List Nat)}{ds:List Nat}(h:WA E pt tm (ZM tm ds) d σ [] [] λtm' σ'=>Q .normal tm' σ'):bJ E (.drawn d pt ds) tm σ Q:=
 adU _ (Jf tm ds) h
section
variable {E:Env}
theorem alT{n:Nat}{op:vJ}{tm:Tr V}{σ σ':St}{v:V}{K:V->St->Prop}(h:oO (iR E n) op tm σ=some (v,σ'))(hk:K v σ'):wpOp E op tm σ K:=by
 unfold wpOp;split
 .next g args=>
  unfold oO at h;simp only[vJ.kind]at h;split at h
  .next f a e=>
   unfold abt at e;cases hg:g.ev tm with
   |fn f' caps=>
    dsimp only at e
    rw[hg]at e
    obtain⟨rfl,rfl⟩:=Prod.mk.inj (ff e)
    exact⟨n,v,σ',h,hk⟩
   |_=>grind
  .cases h
 .next hne=>
  have e:oO (λ_ _ _=>none) op tm σ=oO (iR E n) op tm σ:=by
   unfold oO;cases hk2:op.kind with
   |c=>cases op<;>simp only[vJ.kind,reduceCtorEq]at hk2;grind
   |_=>rfl
  grind
def ag5{n:Nat}{o:AO}{tm:Tr V}{σ σ':St}{v:V}{K:V->St->Prop}(h:stepG (iR E n) o tm σ=some (v,σ'))(hk:K v σ'):wpG E o tm σ K:=by grind[wpG,stepG,alT]
theorem WS{n:Nat}:∀{l:List AO}{tm tm':Tr V}{σ σ':St}{Q:Tr V->St->Prop},sF (iR E n) l tm σ=some (tm',σ')->Q tm' σ'->wpOps E l tm σ Q
 |[],_,_,_,_,_,h,hq=>by cases h;exact hq
 |o::l,tm,tm',σ,σ',Q,h,hq=>by
  unfold sF at h;split at h
  .next v σ1 e=>
   rw[KI]at h;exact ag5 e (WS h hq)
  .cases h
theorem ag6{n:Nat}{pt:List (List Nat)}{dI bU:Tr V}:∀{d:Dr}{σ σ':St}{res:List Rs}{pd:List iM}{tm':Tr V}{Q:Tr V->St->Prop},BQ (iR E n) pt dI bU d σ res pd=some (tm',σ')->Q tm' σ'->WA E pt dI bU d σ res pd Q
 |.fin qs,σ,σ',res,pd,tm',Q,h,hq=>by grind[Go.Proofs.Xe.BQ,Go.Proofs.Xe.WA]
 |.act qs x r,σ,σ',res,pd,tm',Q,h,hq=>by
  unfold BQ at h;unfold WA;split at h
  .next σ1 res1 pd1 e=>
   rw[e];dsimp only;cases hb:pd1.all (again σ1)with
   |false=>rw[hb]at h;cases h
   |true=>
    rw[hb]at h
    simp only[cC]at h
    refine⟨rfl,?_⟩
    split at h
    .next Wn e2=>
     rw[e2]
     dsimp only
     split at h
     .next v σ2 e3=>exact ag5 e3 (ag6 h hq)
     .cases h
    .cases h
  .cases h
end
section
variable (E:Env) (tm:Tr V) (σ:St) (Q:AX→Tr V→St→Prop)
def aqH(l:List AO):bJ E (.ops l) tm σ Q=wpOps E l tm σ λtm' σ'=>Q .normal tm' σ':=by
 refine propext ⟨?_,alg⟩;rintro⟨n,e,tm',σ',h,hq⟩;cases n with
 |zero=>grind[exec]
 |succ n=>
  simp only[exec,VX]at h
  grind[WS]
def auA(d:Dr)(pt:List (List Nat))(ds:List Nat):bJ E (.drawn d pt ds) tm σ Q=WA E pt tm (ZM tm ds) d σ [] [] λtm' σ'=>Q .normal tm' σ':=by
 refine propext ⟨?_,aqG⟩;rintro⟨n,e,tm',σ',h,hq⟩;cases n with
 |zero=>grind[exec]
 |succ n=>
  simp only[exec,xDr,VX,Jf]at h
  grind[ag6]
def seq_eq(a b:AC):bJ E (.seq a b) tm σ Q=bJ E a tm σ (TM E b Q):=by
 refine propext ⟨?_,run_seq⟩;rintro⟨n,e,tm',σ',h,hq⟩;cases n with
 |zero=>grind[exec]
 |succ n=>
  rw[exec]at h
  cases hx:exec E n a tm σ with
  |none=>rw[hx]at h;cases h
  |some q=>
   rw[hx]at h
   obtain⟨e1,Jb,σ1⟩:=q
   refine⟨n,e1,Jb,σ1,hx,?_⟩
   cases e1 with
   |normal=>exact⟨n,e,tm',σ',h,hq⟩
   |exit i=>cases h;exact hq
   |ret=>cases h;exact hq
def ag7(i:Nat)(a:AC):bJ E (.block i a) tm σ Q=bJ E a tm σ (agy i Q):=by
 refine propext ⟨?_,D6⟩;rintro⟨n,e,tm',σ',h,hq⟩;cases n with
 |zero=>grind[exec]
 |succ n=>
  rw[exec]at h
  cases hx:exec E n a tm σ with
  |none=>rw[hx]at h;cases h
  |some q=>
   rw[hx]at h
   obtain⟨e1,Jb,σ1⟩:=q
   refine⟨n,e1,Jb,σ1,hx,?_⟩
   cases e1 with
   |normal=>cases h;exact hq
   |exit j=>cases h;exact hq
   |ret=>cases h;exact hq
def alU:bJ E .skip tm σ Q=Q .normal tm σ:=by
 refine propext ⟨?_,Wx⟩;rintro⟨n,e,tm',σ',h,hq⟩;cases n with
 |zero=>grind[exec]
 |succ n=>grind[exec]
def alV(i:Nat):bJ E (.exit i) tm σ Q=Q (.exit i) tm σ:=by
 refine propext ⟨?_,agw⟩;rintro⟨n,e,tm',σ',h,hq⟩;cases n with
 |zero=>grind[exec]
 |succ n=>grind[exec]
def aqI:bJ E .ret tm σ Q=Q .ret tm σ:=by
 refine propext ⟨?_,ale⟩;rintro⟨n,e,tm',σ',h,hq⟩;cases n with
 |zero=>grind[exec]
 |succ n=>grind[exec]
def ifV(v:V)(P:Bool->Prop):Prop:=match v with|.c (.bool t)=>P t|_=>False
def alW(x:O)(a b:AC):bJ E (.cond x a b) tm σ Q=ifV (x.ev tm) λt=>bJ E (bif t then a else b) tm σ Q:=by
 refine propext ⟨?_,λh=>?_⟩
 .rintro⟨n,e,tm',σ',h,hq⟩;cases n with
  |zero=>grind[exec]
  |succ n=>
   simp only[exec,abv]at h
   split at h
   .next t e=>rw[e];exact⟨n,_,_,_,h,hq⟩
   .cases h
 .unfold ifV at h;grind[agx]
def aqJ(a b:AC):bJ E (bif true then a else b) tm σ Q=bJ E a tm σ Q:=rfl
def aqK(a b:AC):bJ E (bif false then a else b) tm σ Q=bJ E b tm σ Q:=rfl
def alX(a b:AC):bJ E (bif !true then a else b) tm σ Q=bJ E b tm σ Q:=rfl
def alY(a b:AC):bJ E (bif !false then a else b) tm σ Q=bJ E a tm σ Q:=rfl
def ag8(n:Nat)(b:AC)(r:List (Nat×Option (Nat×Bool))):bJ E (AF.body ⟨n,b,r⟩) tm σ Q=bJ E b tm σ Q:=rfl
def ag9(P:Bool->Prop):ifV (.c (.bool true)) P=P true:=rfl
def aei(P:Bool->Prop):ifV (.c (.bool false)) P=P false:=rfl
def alZ(b:Bool)(P:Bool->Prop):ifV (.c (.bool (!b))) P=ifV (.c (.bool b)) λt=>P (!t):=rfl
def aH{p:Prop}[Decidable p]{P:Bool->Prop}(h1:p->P true)(h2:¬p->P false):ifV (.c (.bool (decide p))) P:=by
 show P (decide p);by_cases h:p
 .grind
 grind
def auB{b:Bool}{P:Bool->Prop}(h1:b=true->P true)(h2:b=false->P false):ifV (.c (.bool b)) P:=by
 show P b;cases b with
 |true=>grind
 |false=>grind
def tick:Prop:=∀n:Nat,n=n
def aej:tick=True:=propext ⟨λ_=>trivial,λ_ _=>rfl⟩
@[congr] theorem atn {z:Prop} {v v' : V} {P:Bool→Prop} (hz:tick=z) (h:v=v'):ifV v P=ifV v' P:=by rw [h]
@[congr] theorem ato {z:Prop} {v v' : Option V} {P:V→Prop} (hz:tick=z) (h:v=v'):Gi v P=Gi v' P:=by rw [h]
@[congr] theorem aqL {z:Prop} {c:AC} {tm tm' : Tr V} {σ σ' : St} {Q:AX→Tr V→St→Prop} (hz:tick=z) (h:tm=tm') (h2:σ=σ'):bJ E c tm σ Q=bJ E c tm' σ' Q:=by rw [h,h2]
@[congr] theorem aoF {z:Prop} {c:List AO} {tm tm' : Tr V} {σ σ' : St} {Q:Tr V→St→Prop} (hz:tick=z) (h:tm=tm') (h2:σ=σ'):wpOps E c tm σ Q=wpOps E c tm' σ' Q:=by rw [h,h2]
@[congr] theorem atp {z:Prop} {c:AO} {tm tm' : Tr V} {σ σ' : St} {Q:V→St→Prop} (hz:tick=z) (h:tm=tm') (h2:σ=σ'):wpG E c tm σ Q=wpG E c tm' σ' Q:=by rw [h,h2]
@[congr] theorem aqM {z:Prop} {c:vJ} {tm tm' : Tr V} {σ σ' : St} {Q:V→St→Prop} (hz:tick=z) (h:tm=tm') (h2:σ=σ'):wpOp E c tm σ Q=wpOp E c tm' σ' Q:=by rw [h,h2]
@[congr] theorem aoG {z:Prop} {f:Nat} {a a' : List V} {σ σ' : St} {Q:V→St→Prop} (hz:tick=z) (h:a=a') (h2:σ=σ'):aC E f a σ Q=aC E f a' σ' Q:=by rw [h,h2]
@[congr] theorem atq {z:Prop} {dI bU:Tr V} {qs:List DO} {σ σ' : St} {res res' : List Rs} {pd pd' : List iM} {K:St→List Rs→List iM→Prop} (hz:tick=z) (h2:σ=σ') (h3:res=res') (h4:pd=pd'):uP dI bU qs σ res pd K=uP dI bU qs σ' res' pd' K:=by grind
@[congr] theorem atr {z:Prop} {pt:List (List Nat)} {dI bU:Tr V} {d:Dr} {σ σ' : St} {res res' : List Rs} {pd pd' : List iM} {K:Tr V→St→Prop} (hz:tick=z) (h2:σ=σ') (h3:res=res') (h4:pd=pd'):WA E pt dI bU d σ res pd K=WA E pt dI bU d σ' res' pd' K:=by grind
@[congr] theorem att {z:Prop} {σ σ' : St} {pd pd' : List iM} (hz:tick=z) (h:σ=σ') (h2:pd=pd'):agn σ pd=agn σ' pd':=by rw [h,h2]
@[congr] theorem aqN {z:Prop} {i i' : Nat} {o:AO} {tm:Tr V} {v:V} {g:Bool} {nm:Option Nat} (hz:tick=z) (h:i=i'):iM.mk i o tm v g nm=iM.mk i' o tm v g nm:=by rw [h]
@[congr] theorem aoH {z:Prop} {σ σ' : St} {p:iM} (hz:tick=z) (h:σ=σ'):again σ p=again σ' p:=by rw [h]
@[congr] theorem atu {z:Prop} {dI bU:Tr V} {res:List Rs} {us us' os:List Nat} (hz:tick=z) (h:us=us'):MQ dI bU res us os=MQ dI bU res us' os:=by rw [h]
@[congr] theorem aqO {z:Prop} {bU:Tr V} {res:List Rs} {us us' : List Nat} (hz:tick=z) (h:us=us'):I5 bU res us=I5 bU res us':=by rw [h]
@[congr] theorem atv {z:Prop} {res:List Rs} {u u' : Nat} (hz:tick=z) (h:u=u'):fnd res u=fnd res u':=by rw [h]
@[congr] theorem aoI {z:Prop} {dI tm:Tr V} {os os' : List Nat} (hz:tick=z) (h:os=os'):E5 dI tm os=E5 dI tm os':=by rw [h]
@[congr] theorem aqP {z:Prop} {g:Option (Nat×Bool)} {tm:Tr V} {A B:Prop} (hz:tick=z):Bo g tm A B=Bo g tm A B:=rfl
@[congr] theorem atw {z:Prop} {v v' : V} {b:Bool} {A B:Prop} (hz:tick=z) (h:v=v'):gsV v b A B=gsV v' b A B:=by rw [h]
@[congr] theorem auC {z:Prop} {g:Option (Nat×Bool)} {dI bU:Tr V} {res:List Rs} {us os:List Nat} {σ:St} {pd:List iM} {i:Nat} {d:Option Nat} {op:vJ} {l:List DO} {K:St→List Rs→List iM→Prop} (hz:tick=z):qR g dI bU res us os σ pd i d op l K=qR g dI bU res us os σ pd i d op l K:=rfl
def al0(E:Env)(d:Option Nat)(g:Option (Nat×Bool))(op:vJ)(tm:Tr V)(σ:St)(K:V->St->Prop):wpG E ⟨d,g,op⟩ tm σ K=Bo g tm (wpOp E op tm σ K) (K .tnil σ):=rfl
def aqQ(x:O)(K:V->St->Prop):wpOp E (.mov x) tm σ K=Gi (some (x.ev tm)) λv=>K v σ:=rfl
def aqR(b:AC):TM E b Q .normal tm σ=bJ E b tm σ Q:=rfl
def aqS(b:AC)(i:Nat):TM E b Q (.exit i) tm σ=Q (.exit i) tm σ:=rfl
def aqT(b:AC):TM E b Q .ret tm σ=Q .ret tm σ:=rfl
def aqU(i:Nat):agy i Q .normal tm σ=Q .normal tm σ:=rfl
def aqV(i j:Nat):agy i Q (.exit j) tm σ=Q (bif Nat.beq j i then .normal else .exit j) tm σ:=rfl
def aqW(i:Nat):agy i Q .ret tm σ=Q .ret tm σ:=rfl
variable (I:Nat→Tr V→St→Prop) (m:Nat) (res:List (Nat×Option (Nat×Bool))) (K:V→St→Prop)
def aqX:alf I m Q .normal tm σ=∃m',m'<m/\I m' tm σ:=rfl
def aqY(i:Nat):alf I m Q (.exit i) tm σ=Q (.exit i) tm σ:=rfl
def aqZ:alf I m Q .ret tm σ=Q .ret tm σ:=rfl
def al1:ZG res K .normal tm σ=Gi (result tm σ res) λv=>K v σ:=by unfold ZG Gi;grind
def aq0:ZG res K .ret tm σ=Gi (result tm σ res) λv=>K v σ:=by unfold ZG Gi;grind
end
def aq1(p q:Rat):decide (oh p q<0)=decide (p<q):=by
 by_cases h:p<q
 .rw[bj h,bj];exact qy.mpr h
 .rw[aw h,aw];exact λe=>h (qy.mp e)
def aha(tm:Tr V)(d:Nat)(v:V):Tr.get (Ew tm (some d) v) d=some v:=by grind[Ew,Tr.tX]
def aq2(tm:Tr V)(d j:Nat)(v:V)(h:j≠d):Tr.get (Ew tm (some d) v) j=Tr.get tm j:=by grind[Ew,Tr.tX]
def ZQ(tm:Tr V)(σ:St):oW tm σ []=some .tnil:=rfl
def ahb(tm:Tr V)(σ:St)(t:Nat)(r:List (Nat×Option (Nat×Bool))):oW tm σ ((t,none)::r)=match tm.get t,oW tm σ r with|some v,some w=>some (.aW v w)|_,_=>none:=rfl
def ahc(tm:Tr V)(σ:St)(t n:Nat)(g:Bool)(r:List (Nat×Option (Nat×Bool))):oW tm σ ((t,some (n,g))::r)=match(match tm.ah t with|.c (.ptr b o)=>ld σ.h b o n g|_=>none),oW tm σ r with|some v,some w=>some (.aW v w)|_,_=>none:=rfl
def Fr.new1{σ:St}{h:Tr Bk}{n:Nat}{k:Bk}(hf:Fr σ ⟨h,n⟩):Fr σ ⟨hset h n k,n+1⟩:=Fr.new hf k
def Fr.set1{σ:St}{h:Tr Bk}{n b:Nat}{k:Bk}(hf:Fr σ ⟨h,n⟩)(h1:σ.aj<=b)(h2:b<n):Fr σ ⟨hset h b k,n⟩:=Fr.set hf h1 h2 k
def ak{h:Tr Bk}{b:Nat}{k:Bk}(e:h b=some k)(o n:Nat)(g:Bool):ld h b o n g=bif k.rd then zH k.cells o n g else none:=by unfold ld;rw[e]
def aJ{h:Tr Bk}{b:Nat}{k:Bk}(e:h b=some k)(o:Nat)(vs:List B):sto h b o vs=match bif k.pl then yj k.cells o vs else none with|some l=>some (hset h b ⟨l,k.opn⟩)|none=>none:=by grind[sto]
def plo(o:Option (Nat×Nat)):Bool:=match o with|some (0,_)=>false|_=>true
def YU(o:Option (Nat×Nat)):Bool:=match o with|some (0,t)=>Nat.beq t 1|_=>true
def aq3(k:Bk):k.pl=plo k.opn:=rfl
def NG(k:Bk):k.rd=YU k.opn:=rfl
def ahd:plo none=true:=rfl
def ahe:YU none=true:=rfl
def aoJ(e t:Nat)(h:e≠0):plo (some (e,t))=true:=by cases e with|zero=>omega|succ e=>rfl
def Cm(e t:Nat)(h:e≠0):YU (some (e,t))=true:=by cases e with|zero=>omega|succ e=>rfl
def auD:YU (some (0,1))=true:=rfl
def ahf(k:IntKind)(n:Int):B.kn (.int k n)=true:=rfl
theorem Ap(b:Bool):B.kn (.bool b)=true:=rfl
theorem FI(s:ByteArray):B.kn (.str s)=true:=rfl
def aq4(b o:Nat):B.kn (.ptr b o)=true:=rfl
def al2:B.kn .Td=true:=rfl
def auE(b o n:Nat)(c:Cap):B.kn (.sl b o n c)=true:=rfl
def al3:B.kn .aX=true:=rfl
def auF(b:Nat):B.kn (.mp b)=true:=rfl
def HL.kn{h:Tr Bk}{e:Nat}{v:B}{n:Nat}{G:Nat->List B}(hl:HL h e v n G):v.kn=true:=by rcases hl with⟨-,rfl⟩|⟨b,o,c,rfl,-⟩<;>rfl
def HC.kn{h:Tr Bk}{v:B}{n:Nat}{G:Nat->B}(hl:HC h v n G):v.kn=true:=by rcases hl with⟨-,rfl⟩|⟨b,o,c,rfl,-⟩<;>rfl
def auG(x:B)(l:List B)(o n:Nat):zH (x::l) o n true=bif Nat.beq (((x::l).drop o).take n).length n&&(((x::l).drop o).take n).all B.kn then some (.agg (((x::l).drop o).take n))else none:=rfl
def auH(x:B)(l:List B)(o n:Nat):zH (x::l) o n false=match(x::l).drop o with|x::_=>bif x.kn then some (.c x)else none|[]=>none:=rfl
def auI(x:B)(l vs:List B):yj (x::l) 0 vs=bif Nat.ble vs.length (x::l).length then some (vs++(x::l).drop vs.length)else none:=by rw[yj]
def auJ(x:B)(l:List B)(o:Nat)(vs:List B):yj (x::l) (o+1) vs=match yj l o vs with|some r=>some (x::r)|none=>none:=by rfl
def ahg(a b:Nat):(Int.ofNat a=Int.ofNat b)=(a=b):=propext ⟨Int.ofNat.inj,λe=>by rw[e]⟩
def eq_neg(a b:Nat):(Int.ofNat a=Int.negSucc b)=False:=by simp
def auK[h:Decidable True]: @decide True h=true:=by simp
def auL[h:Decidable False]: @decide False h=false:=by simp
attribute [go_sem] aej alX alY aqJ aqK ag8 aeb wpOps_cons agH ap7 o_load alo alp alq ap8 aug ap9 aqa aqb aqc auh aui auj auk aul aum aun aqd aqe auo aup auq alr als aqf aus aur aut alu BP aqg Zp auu aln aea aqh alv auv aqi JV rep auw alx aqj axn axo ad2 alk ad3 ad4 ad5 ad6 ad7 ad8 V.cells alm auf agG ap6 aA axp axq cY fa Bool.and_true Bool.true_and List.drop_succ_cons gT gw cP bO List.length_nil Nat.reduceAdd cQ cE abE ND vN Fb au dT List.nil_append ia List.map_cons List.map_nil result agF aG alE alF alA aqs alI alK agR agT agV aqu aqw aqy agX agZ aqA aqC alL ag1 alN aqE ag3 alP alR aef alB alC aqk agK aec agL aly agM aed ZN agN aee agJ alD agO aqt alJ agS agU agW aqv aqx aqz agY ag0 aqB aqD alM ag2 alO aqF ag4 alQ alS ZP WR aeh alG auy ZO aeg List.contains_cons List.contains_nil Nat.reduceBEq Bool.or_false Bool.or_true Bool.false_or Bool.true_or cC fX List.getD_cons_zero List.getD_cons_succ am and_true al0 aql aqm aqn aqo aqp aqr alz auz alH aqQ aqH auA seq_eq ag7 alU alV aqI alW ag9 aei alZ aqR aqS aqT aqU aqV aqW aqX aqY aqZ al1 aq0 aq1 ahf Ap FI aq4 al2 auE al3 auF auG auH auI auJ ahg eq_neg auK auL aq3 NG ahd ahe aoJ Cm auD aha aq2 ZQ ahb ahc auc ZK ZL agE ad1 aud aue ap2 agD aua ap1 agC adZ WJ apZ WH ap0 WI adW aub ali abD ap3 WM ap4 ap5 alj WL
end Go.Proofs.Xe
