import Derived.Test.YthkggcakedkboaaGreatDoorYc9
set_option linter.all false
set_option maxRecDepth 100000
noncomputable section
namespace Go.Proofs.Xe
open Go.RowKit Go.Proofs.Ins
def szK:Nat:=60000000
def Sz(q:Rat):Prop:=Sm szK q
def DN(a:Nat):Prop:=(bn a).size<=60000000
def rV(q:Rat):V:=.agg [.bool (rn q),.str (rs q),.str (rd q)]
def rbV(q:Rat)(b:Bool):V:=.aX (rV q) (.aX (.c (.bool b)) .tnil)
def iV(i:Int):V:=.c (.int .i64 i)
def Sz.sizes{p:Rat}(h:Sz p):(rs p).size<=60000000/\(rd p).size<=60000000:=⟨Sm.rs h,Sm.rd h⟩
def Yr{a b:Nat}(h:bn a=bn b):a=b:=by rw[<-gW a,<-gW b,h]
abbrev kb(b:Bool):O:=.k (.c (.bool b))
abbrev d(n:Nat):Option Nat:=some n
abbrev s0:B:=.str ⟨#[]⟩
abbrev i0:B:=.int .i64 (.ofNat 0)
def OU(c:Bool)(R:Rat->Rat->V):List V->Option V
 |[.agg [.bool n,.str s,.str d],.agg [.bool m,.str t,.str e]]=>if(s.size+d.size<=130000000/\t.size+e.size<=130000000)/\(c=true->OY n s d/\OY m t e)then some (R (rq n s d) (rq m t e))else none
 |_=>none
def Yi(c:Bool)(R:Rat->V):List V->Option V
 |[.agg [.bool n,.str s,.str d]]=>if s.size+d.size<=130000000/\(c=true->OY n s d)then some (R (rq n s d))else none
 |_=>none
def kVd:List V->Option V
 |[.agg [.bool n,.str s,.str d]]=>if s.size+d.size<=130000000 then some (.c (.bool (decide (OY n s d))))else none
 |_=>none
def kN1(R:Nat->V):List V->Option V
 |[.c (.str s)]=>if s.size<=1073741824 then some (R (nv s))else none
 |_=>none
def Yj(R:Nat->Nat->Option V):List V->Option V
 |[.c (.str s),.c (.str t)]=>if s.size<=1073741824/\t.size<=1073741824 then R (nv s) (nv t)else none
 |_=>none
def kB3(R:Bool->Nat->Nat->Option V):List V->Option V
 |[.c (.bool n),.c (.str s),.c (.str t)]=>if s.size<=1073741824/\t.size<=1073741824 then R n (nv s) (nv t)else none
 |_=>none
def kI(k:IntKind)(l h:Int)(R:Int->V):List V->Option V
 |[.c (.int j i)]=>if j=k/\l<=i/\i<=h then some (R i)else none
 |_=>none
def kS(R:Rat->V):List V->Option V
 |[.agg [.bool n,.str s,.str d]]=>if smB n s d=true then some (R (rq n s d))else none
 |_=>none
def kQ(R:Int->Int->V):List V->Option V
 |[.c (.int j i),.c (.int k m)]=>if(j=.i64/\0<=i/\i<23)/\k=.i64/\0<m/\m<7 then some (R i m)else none
 |_=>none
def BQ(c:Bool)(R:Rat->Rat->V){p q:Rat}(hp:Sz p)(hq:Sz q):OU c R [rV p,rV q]=some (R p q):=by unfold OU rV;have:=hp.sizes;have:=hq.sizes;simp only;rw[ab ⟨jb,λ_=>⟨Bz p,Bz q⟩⟩,EF,EF]
def Y7(c:Bool)(R:Rat->V){p:Rat}(hp:Sz p):Yi c R [rV p]=some (R p):=by unfold Yi rV;have:=hp.sizes;simp only;rw[ab ⟨jb,λ_=>Bz p⟩,EF]
def ao8{p:Rat}(hp:Sz p):kVd [rV p]=some (.c (.bool true)):=by unfold kVd rV;have:=hp.sizes;simp only;rw[ab jb,bB (Bz p)]
def MZ(R:Nat->Nat->Option V){a b:Nat}{v:V}(ha:DN a)(hb:DN b)(h:R a b=some v):Yj R [.c (.str (bn a)),.c (.str (bn b))]=some v:=by unfold Yj DN at*;simp only;rw[ab jb,gW,gW,h]
def ao9(R:Bool->Nat->Nat->Option V){n:Bool}{a b:Nat}{v:V}(ha:DN a)(hb:DN b)(h:R n a b=some v):kB3 R [.c (.bool n),.c (.str (bn a)),.c (.str (bn b))]=some v:=by unfold kB3 DN at*;simp only;rw[ab jb,gW,gW,h]
noncomputable section
def jr(f:Nat):List V->Option V:=
 bif Nat.beq f 76 then(kN1 λa=>.c (.str (bn a)))else
 bif Nat.beq f 39 then(Yj λa b=>some (iV (qc a b)))else
 bif Nat.beq f 81 then(Yj λa b=>some (.c (.str (bn (a+b)))))else
 bif Nat.beq f 40 then(Yj λa b=>some (.c (.str (bn (a*b)))))else
 bif Nat.beq f 83 then(Yj λa b=>some (.c (.str (bn (Nat.gcd a b)))))else
 bif Nat.beq f 82 then(Yj λa b=>some (if b<=a then .aX (.c (.str (bn (a-b)))) (.aX (.c (.bool true)) .tnil)else .aX (.c (.str ⟨#[]⟩)) (.aX (.c (.bool false)) .tnil)))else
 bif Nat.beq f 84 then(Yj λa b=>if 0<b then some (.aX (.c (.str (bn (a/b)))) (.aX (.c (.str (bn (a%b)))) (.aX (.c (.bool true)) .tnil)))else none)else
 bif Nat.beq f 85 then(kI .u64 0 18446744073709551615 λi=>.c (.str (bn i.toNat)))else
 bif Nat.beq f 49 then(kI .i64 0 30 λi=>rV i)else
 bif Nat.beq f 48 then(kQ λi j=>rV ((i:Rat)/(j:Rat)))else
 bif Nat.beq f 26 then(kI .u16 0 65535 λi=>rV (amt i.toNat))else
 bif Nat.beq f 41 then(Yi true λp=>.c (.str (bn p.den)))else
 bif Nat.beq f 75 then kVd else
 bif Nat.beq f 37 then(Yi false λp=>rV p)else
 bif Nat.beq f 45 then(kB3 λn a b=>if 0<b then some (rV (fr n a b))else none)else
 bif Nat.beq f 151 then(kB3 λn a b=>some (if b=0 then rbV 0 false else rbV (fr n a b) true))else
 bif Nat.beq f 46 then(kI .i64 (-9223372036854775808) 9223372036854775807 λi=>.c (.str (bn i.natAbs)))else
 bif Nat.beq f 23 then(kI .i64 (-9223372036854775808) 9223372036854775807 λi=>rV i)else
 bif Nat.beq f 38 then(Yi true λp=>iV (sg p))else
 bif Nat.beq f 17 then(Yi false λp=>iV (sg p))else
 bif Nat.beq f 98 then(Yi true λp=>rV (-p))else
 bif Nat.beq f 44 then(OU true λp q=>rV (p+q))else
 bif Nat.beq f 22 then(OU false λp q=>rV (p+q))else
 bif Nat.beq f 60 then(OU false λp q=>rV (p-q))else
 bif Nat.beq f 117 then(OU false λp q=>rV (p*q))else
 bif Nat.beq f 115 then(OU false λp q=>rbV (GR p q) (okR q))else
 bif Nat.beq f 16 then(OU false λp q=>iV (oJ p q))else
 bif Nat.beq f 136 then(OU false λp q=>rV (IV p q))else
 bif Nat.beq f 59 then(OU false λp q=>rV (GU p q))else
 λ_=>none
end
class jE (E:Env) (f:Nat):Prop where
 o:∀args v σ,jr f args=some v->E.Vm f args σ=some (v,σ)
def afR{E:Env}{f:Nat}{args:List V}{v:V}{σ σ2:St}{K:V->St->Prop}(h:E.Vm f args σ=some (v,σ2)):aC E f args σ K=K v σ2:=by
 refine propext ⟨λ⟨n,v',σ',h1,h2⟩=>?_,λhk=>VO h hk⟩;have h3:iP E 1 f args σ=some (v,σ2):=by rw[iP];unfold Gt;rw[h]
 have a:=ng (show n<=n+1 by omega) f args σ _ h1;have b:=ng (show 1<=n+1 by omega) f args σ _ h3;rw[a]at b;cases b;exact h2
def aS{E:Env}{f:Nat}[hE:jE E f]{args:List V}{v:V}{σ:St}{K:V->St->Prop}(h:jr f args=some v):aC E f args σ K=K v σ:=afR (hE.o args v σ h)
def Na(P:Program)(f:Nat):Bool:=match P.funcs[f]? with|some fn=> !fn.body.isNone&& !(fn.name== "runtime.NumGoroutine")|none=>false
def yx{P:Program}{f:Nat}(h:Na P f=true):okF P f:=by
 unfold Na at h;split at h
 .next fn hfn=>
  simp only[af,gO]at h;exact⟨fn,hfn,h.1,h.2⟩
 .cases h
def Ct(P:Program)(f:Nat)(v:V)(bF:Array Value)(w:World):Prop:=
 Calls P f bF w λe w'=>∃cv,e=.returned cv/\Below w.heap.size w w'/\∀φ',RV φ' v cv
class yP (f:Nat):Prop where
 k:okF Tryz.prog f
 c:∀args v,jr f args=some v->∀(φ:Ph) (bF:Array Value) (w:World),Gu φ args bF.toList->Ct Tryz.prog f v bF w
class OkL (l:List Nat):Prop where
 o:∀f,l.contains f=true->yP f
class Mm (f:Nat) (l:List Nat):Prop where
 h:l.contains f=true
instance:OkL []:=⟨nofun⟩
instance {f:Nat}{l:List Nat} [h:yP f] [hl:OkL l]:OkL (f::l):=⟨λg hg=>by
 rw[List.contains_cons,Bool.or_eq_true]at hg;rcases hg with hg|hg
 .rw[eq_of_beq hg];exact h
 .exact hl.o g hg⟩
instance {f:Nat}{l:List Nat}:Mm f (f::l):=⟨by simp⟩
instance {f g:Nat}{l:List Nat} [h:Mm f l]:Mm f (g::l):=⟨by simpa using .inr (by simpa using h.h)⟩
def Eb(l:List Nat):Env:=⟨tF Tryz.prog,λf args σ=>bif l.contains f then(match jr f args with|some v=>some (v,σ)|none=>none)else none⟩
instance {f:Nat}{l:List Nat} [h:Mm f l]:jE (Eb l) f:=⟨λargs v σ hv=>by unfold Eb;dsimp only;rw[h.h,hv];rfl⟩
def yP.Vm{f:Nat}(h:yP f){args:List V}{σ σ':St}{v:V}(ho:(match jr f args with|some v=>some (v,σ)|none=>none)=some (v,σ')):okF Tryz.prog f/\∀(N:Nat) (w0:World) (φ:Ph) (w:World) (bF:Array Value),Rel N w0 φ σ w->Gu φ args bF.toList->
  Calls Tryz.prog f bF w λe w'=>∃cv,e=.returned cv/\∃φ',Ext σ.aj φ φ'/\Rel N w0 φ' σ' w'/\RV φ' v cv/\σ.aj<=σ'.aj:=by
 split at ho
 .next u hu=>
  cases ho
  refine⟨h.k,λN w0 φ w bF hR ha=>(h.c _ _ hu φ bF w ha).mono λe w' he=>?_⟩
  obtain⟨cv,rfl,hb,hv⟩:=he
  exact⟨cv,rfl,φ,Ext.refl _ _,hR.below hb,hv φ,jp⟩
 .cases ho
def Qj{l:List Nat}[h:OkL l]:MR Tryz.prog (Eb l):=by
 refine⟨λf F h=>afK h,λf args σ v σ' ho=>?_⟩;unfold Eb at ho;dsimp only at ho;cases hc:l.contains f with
 |false=>rw[hc]at ho;cases ho
 |true=>rw[hc]at ho;exact(h.o f hc).Vm ho
def fB:B->Bool
 |.int ..|.bool _|.str _=>true
 |_=>false
def fV:V->Bool
 |.c x=>fB x
 |.agg l=>l.all fB
 |.aX a r=>fV a&&fV r
 |.tnil=>true
 |_=>false
section
variable {φ φ' : Ph}
def RB.flat{x:B}{v:Value}(h:fB x=true)(hv:RB φ x v):RB φ' x v:=by cases x<;>first|exact hv|cases h
def ku.flat:∀{l:List B}{r:List Value},l.all fB=true->ku φ l r->ku φ' l r
 |[],[],_,_=>trivial
 |_::_,_::_,h,hv=>by rw[cL,af]at h;exact⟨hv.1.flat h.1,ku.flat h.2 hv.2⟩
 |[],_::_,_,hv=>hv.elim
 |_::_,[],_,hv=>hv.elim
def RV.flat:∀{x:V}{v:Value},fV x=true->RV φ x v->RV φ' x v
 |.c _,_,h,hv=>RB.flat h hv
 |.agg _,_,h,⟨r,e,hr⟩=>⟨r,e,hr.flat h⟩
 |.aX _ _,_,h,⟨x,xs,e,h1,h2⟩=>by unfold fV at h;rw[af]at h;exact⟨x,xs,e,h1.flat h.1,h2.flat h.2⟩
 |.tnil,_,_,hv=>hv
def Gu.flat:∀{l:List V}{r:List Value},l.all fV=true->Gu φ l r->Gu φ' l r
 |[],[],_,_=>trivial
 |_::_,_::_,h,hv=>by rw[cL,af]at h;exact⟨hv.1.flat h.1,Gu.flat h.2 hv.2⟩
 |[],_::_,_,hv=>hv.elim
 |_::_,[],_,hv=>hv.elim
end
def awo(w:World):Rel w.heap.size w (λ_=>none) ⟨.leaf,0⟩ w:=
 ⟨jp,Below.refl _ _,nofun,nofun,nofun,nofun,λb _=>⟨rfl,Tr.LW b⟩⟩
def Fj{E:Env}(hE:MR Tryz.prog E){f:Nat}{args:List V}{v:V}(ha:args.all fV=true)(hv:fV v=true)(h:aC E f args ⟨.leaf,0⟩ λr _=>r=v)(φ:Ph)(bF:Array Value)(w:World)(hr:Gu φ args bF.toList):Ct Tryz.prog f v bF w:=by obtain⟨n,r,σ',h1,rfl⟩:=h;refine(Qi hE (by kernel_rfl) h1 (awo w) (hr.flat ha)).mono λe w' he=>?_;obtain⟨cv,rfl,φ',-,hR,hc,-⟩:=he;exact⟨cv,rfl,hR.bel,λφ=>hc.flat hv⟩
structure Qk(k:Nat) where
 a:AF
 g:tG Tryz.prog k=some a:=by conv=>(lhs;reduce;simp only[anY,ata])
 i:VF Tryz.prog k a=true:=by kernel_rfl
def qw{f:Nat}{l:List Nat}(b:Qk f)(hl:l.contains f=false){args:List V}{σ:St}{K:V->St->Prop}(h:bJ (Eb l) b.a.body (ini args) σ (Y6 b.a.res K)):aC (Eb l) f args σ K:=
 aQ (by unfold Eb;dsimp only;rw[hl];rfl) (anX b.g b.i) h
section
variable {E:Env} {σ:St} {K:V→St→Prop}
def uV:jr 76=kN1 (λa=>.c (.str (bn a))):=rfl
def xP:jr 39=Yj (λa b=>some (iV (qc a b))):=rfl
def yA:jr 81=Yj (λa b=>some (.c (.str (bn (a+b))))):=rfl
def apa[jE E 81](a b:Nat)(h1:DN a)(h2:DN b):aC E 81 [.c (.str (bn a)),.c (.str (bn b))] σ K=K (.c (.str (bn (a+b)))) σ:=aS ((bW yA _).trans (MZ _ h1 h2 (by first|rfl|simp)))
def oN:jr 40=Yj (λa b=>some (.c (.str (bn (a*b))))):=rfl
def VP[jE E 40](a b:Nat)(h1:DN a)(h2:DN b):aC E 40 [.c (.str (bn a)),.c (.str (bn b))] σ K=K (.c (.str (bn (a*b)))) σ:=aS ((bW oN _).trans (MZ _ h1 h2 (by first|rfl|simp)))
def yB:jr 83=Yj (λa b=>some (.c (.str (bn (Nat.gcd a b))))):=rfl
def apb[jE E 83](a b:Nat)(h1:DN a)(h2:DN b):aC E 83 [.c (.str (bn a)),.c (.str (bn b))] σ K=K (.c (.str (bn (Nat.gcd a b)))) σ:=aS ((bW yB _).trans (MZ _ h1 h2 (by first|rfl|simp)))
def oO:jr 82=Yj (λa b=>some (if b<=a then .aX (.c (.str (bn (a-b)))) (.aX (.c (.bool true)) .tnil)else .aX (.c (.str ⟨#[]⟩)) (.aX (.c (.bool false)) .tnil))):=rfl
def VQ[jE E 82](a b:Nat)(h1:DN a)(h2:DN b):aC E 82 [.c (.str (bn a)),.c (.str (bn b))] σ K=K (if b<=a then .aX (.c (.str (bn (a-b)))) (.aX (.c (.bool true)) .tnil)else .aX (.c (.str ⟨#[]⟩)) (.aX (.c (.bool false)) .tnil)) σ:=aS ((bW oO _).trans (MZ _ h1 h2 (by first|rfl|simp)))
def rU:jr 84=Yj (λa b=>if 0<b then some (.aX (.c (.str (bn (a/b)))) (.aX (.c (.str (bn (a%b)))) (.aX (.c (.bool true)) .tnil)))else none):=rfl
def ade[jE E 84](a b:Nat)(h1:DN a)(h2:DN b)(h0:0<b):aC E 84 [.c (.str (bn a)),.c (.str (bn b))] σ K=K (.aX (.c (.str (bn (a/b)))) (.aX (.c (.str (bn (a%b)))) (.aX (.c (.bool true)) .tnil))) σ:=aS ((bW rU _).trans (MZ _ h1 h2 (ab h0)))
def oP:jr 85=kI .u64 0 18446744073709551615 (λi=>.c (.str (bn i.toNat))):=rfl
def VR[jE E 85](x:Nat)(h1:x<18446744073709551616):aC E 85 [.c (.int .u64 (.ofNat x))] σ K=K (.c (.str (bn x))) σ:=aS ((bW oP _).trans (ab ⟨rfl,by simp,by simp only[dq];omega⟩))
def GV:jr 49=kI .i64 0 30 (λi=>rV i):=rfl
def afS[jE E 49](x:Nat)(h1:x<=30):aC E 49 [.c (.int .i64 (.ofNat x))] σ K=K (.agg [.bool (rn ((Int.ofNat x:Int):Rat)),.str (rs ((Int.ofNat x:Int):Rat)),.str (rd ((Int.ofNat x:Int):Rat))]) σ:=aS ((bW GV _).trans (ab ⟨rfl,by simp,by simp only[dq];omega⟩))
def SS:jr 48=kQ (λi j=>rV ((i:Rat)/(j:Rat))):=rfl
def ER:jr 26=kI .u16 0 65535 (λi=>rV (amt i.toNat)):=rfl
def adf[jE E 26](x:Nat)(h1:x<=65535):aC E 26 [.c (.int .u16 (.ofNat x))] σ K=K (.agg [.bool (rn (amt x)),.str (rs (amt x)),.str (rd (amt x))]) σ:=aS ((bW ER _).trans (ab ⟨rfl,by simp,by simp only[dq];omega⟩))
def eX:jr 41=Yi true (λp=>.c (.str (bn p.den))):=rfl
def rW:jr 75=kVd:=rfl
def aa4[jE E 75](p:Rat)(hp:Sz p):aC E 75 [.agg [.bool (rn p),.str (rs p),.str (rd p)]] σ K=K (.c (.bool true)) σ:=aS ((bW rW _).trans (ao8 hp))
def nK:jr 37=Yi false (λp=>rV p):=rfl
def akE[jE E 37](p:Rat)(hp:Sz p):aC E 37 [.agg [.bool (rn p),.str (rs p),.str (rd p)]] σ K=K (.agg [.bool (rn p),.str (rs p),.str (rd p)]) σ:=aS ((bW nK _).trans (Y7 _ _ hp))
def VT[jE E 37](n:Bool)(s d:ByteArray)(h1:s.size+d.size<=130000000):aC E 37 [.agg [.bool n,.str s,.str d]] σ K=K (.agg [.bool (rn (rq n s d)),.str (rs (rq n s d)),.str (rd (rq n s d))]) σ:=aS ((bW nK _).trans (ab ⟨h1,nofun⟩))
def wE:jr 45=kB3 (λn a b=>if 0<b then some (rV (fr n a b))else none):=rfl
def uj:jr 151=kB3 (λn a b=>some (if b=0 then rbV 0 false else rbV (fr n a b) true)):=rfl
def apc[jE E 151](n:Bool)(a b:Nat)(h1:DN a)(h2:DN b)(h0:0<b):aC E 151 [.c (.bool n),.c (.str (bn a)),.c (.str (bn b))] σ K=K (.aX (.agg [.bool (rn (fr n a b)),.str (rs (fr n a b)),.str (rd (fr n a b))]) (.aX (.c (.bool true)) .tnil)) σ:=aS ((bW uj _).trans (ao9 _ h1 h2 (by rw[ae jb];rfl)))
def tN:jr 46=kI .i64 (-9223372036854775808) 9223372036854775807 (λi=>.c (.str (bn i.natAbs))):=rfl
def BR:jr 23=kI .i64 (-9223372036854775808) 9223372036854775807 (λi=>rV i):=rfl
def atb[jE E 23](i:Int)(h1: -9223372036854775808<=i)(h2:i<=9223372036854775807):aC E 23 [.c (.int .i64 i)] σ K=K (.agg [.bool (rn i),.str (rs i),.str (rd i)]) σ:=aS ((bW BR _).trans (ab ⟨rfl,h1,h2⟩))
def jF:jr 38=Yi true (λp=>iV (sg p)):=rfl
def um:jr 17=Yi false (λp=>iV (sg p)):=rfl
def ape[jE E 17](p:Rat)(hp:Sz p):aC E 17 [.agg [.bool (rn p),.str (rs p),.str (rd p)]] σ K=K (.c (.int .i64 (sg p))) σ:=aS ((bW um _).trans (Y7 _ _ hp))
def akF[jE E 17](n:Bool)(s d:ByteArray)(h1:s.size+d.size<=130000000):aC E 17 [.agg [.bool n,.str s,.str d]] σ K=K (.c (.int .i64 (sg (rq n s d)))) σ:=aS ((bW um _).trans (ab ⟨h1,nofun⟩))
def qx:jr 98=Yi true (λp=>rV (-p)):=rfl
def afT[jE E 98](p:Rat)(hp:Sz p):aC E 98 [.agg [.bool (rn p),.str (rs p),.str (rd p)]] σ K=K (.agg [.bool (rn (-p)),.str (rs (-p)),.str (rd (-p))]) σ:=aS ((bW qx _).trans (Y7 _ _ hp))
def qy:jr 44=OU true (λp q=>rV (p+q)):=rfl
def atc[jE E 44](p q:Rat)(hp:Sz p)(hq:Sz q):aC E 44 [.agg [.bool (rn p),.str (rs p),.str (rd p)],.agg [.bool (rn q),.str (rs q),.str (rd q)]] σ K=K (.agg [.bool (rn (p+q)),.str (rs (p+q)),.str (rd (p+q))]) σ:=aS ((bW qy _).trans (BQ _ _ hp hq))
def wF:jr 22=OU false (λp q=>rV (p+q)):=rfl
def atd[jE E 22](p q:Rat)(hp:Sz p)(hq:Sz q):aC E 22 [.agg [.bool (rn p),.str (rs p),.str (rd p)],.agg [.bool (rn q),.str (rs q),.str (rd q)]] σ K=K (.agg [.bool (rn (p+q)),.str (rs (p+q)),.str (rd (p+q))]) σ:=aS ((bW wF _).trans (BQ _ _ hp hq))
def apf[jE E 22](n m:Bool)(s d t e:ByteArray)(h1:s.size+d.size<=130000000)(h2:t.size+e.size<=130000000):aC E 22 [.agg [.bool n,.str s,.str d],.agg [.bool m,.str t,.str e]] σ K=K (.agg [.bool (rn ((rq n s d)+(rq m t e))),.str (rs ((rq n s d)+(rq m t e))),.str (rd ((rq n s d)+(rq m t e)))]) σ:=aS ((bW wF _).trans (ab ⟨⟨h1,h2⟩,nofun⟩))
def nT:jr 60=OU false (λp q=>rV (p-q)):=rfl
def Y8[jE E 60](p q:Rat)(hp:Sz p)(hq:Sz q):aC E 60 [.agg [.bool (rn p),.str (rs p),.str (rd p)],.agg [.bool (rn q),.str (rs q),.str (rd q)]] σ K=K (.agg [.bool (rn (p-q)),.str (rs (p-q)),.str (rd (p-q))]) σ:=aS ((bW nT _).trans (BQ _ _ hp hq))
def VU[jE E 60](n m:Bool)(s d t e:ByteArray)(h1:s.size+d.size<=130000000)(h2:t.size+e.size<=130000000):aC E 60 [.agg [.bool n,.str s,.str d],.agg [.bool m,.str t,.str e]] σ K=K (.agg [.bool (rn ((rq n s d)-(rq m t e))),.str (rs ((rq n s d)-(rq m t e))),.str (rd ((rq n s d)-(rq m t e)))]) σ:=aS ((bW nT _).trans (ab ⟨⟨h1,h2⟩,nofun⟩))
def uX:jr 117=OU false (λp q=>rV (p*q)):=rfl
def Y9[jE E 117](p q:Rat)(hp:Sz p)(hq:Sz q):aC E 117 [.agg [.bool (rn p),.str (rs p),.str (rd p)],.agg [.bool (rn q),.str (rs q),.str (rd q)]] σ K=K (.agg [.bool (rn (p*q)),.str (rs (p*q)),.str (rd (p*q))]) σ:=aS ((bW uX _).trans (BQ _ _ hp hq))
def xQ:jr 115=OU false (λp q=>rbV (GR p q) (okR q)):=rfl
def afU[jE E 115](p q:Rat)(hp:Sz p)(hq:Sz q):aC E 115 [.agg [.bool (rn p),.str (rs p),.str (rd p)],.agg [.bool (rn q),.str (rs q),.str (rd q)]] σ K=K (.aX (.agg [.bool (rn (GR p q)),.str (rs (GR p q)),.str (rd (GR p q))]) (.aX (.c (.bool (okR q))) .tnil)) σ:=aS ((bW xQ _).trans (BQ _ _ hp hq))
def lu:jr 16=OU false (λp q=>iV (oJ p q)):=rfl
def adg[jE E 16](p q:Rat)(hp:Sz p)(hq:Sz q):aC E 16 [.agg [.bool (rn p),.str (rs p),.str (rd p)],.agg [.bool (rn q),.str (rs q),.str (rd q)]] σ K=K (.c (.int .i64 (oJ p q))) σ:=aS ((bW lu _).trans (BQ _ _ hp hq))
def wG:jr 136=OU false (λp q=>rV (IV p q)):=rfl
def ate[jE E 136](p q:Rat)(hp:Sz p)(hq:Sz q):aC E 136 [.agg [.bool (rn p),.str (rs p),.str (rd p)],.agg [.bool (rn q),.str (rs q),.str (rd q)]] σ K=K (.agg [.bool (rn (IV p q)),.str (rs (IV p q)),.str (rd (IV p q))]) σ:=aS ((bW wG _).trans (BQ _ _ hp hq))
def apg[jE E 136](n m:Bool)(s d t e:ByteArray)(h1:s.size+d.size<=130000000)(h2:t.size+e.size<=130000000):aC E 136 [.agg [.bool n,.str s,.str d],.agg [.bool m,.str t,.str e]] σ K=K (.agg [.bool (rn (IV (rq n s d) (rq m t e))),.str (rs (IV (rq n s d) (rq m t e))),.str (rd (IV (rq n s d) (rq m t e)))]) σ:=aS ((bW wG _).trans (ab ⟨⟨h1,h2⟩,nofun⟩))
def wH:jr 59=OU false (λp q=>rV (GU p q)):=rfl
def atf[jE E 59](p q:Rat)(hp:Sz p)(hq:Sz q):aC E 59 [.agg [.bool (rn p),.str (rs p),.str (rd p)],.agg [.bool (rn q),.str (rs q),.str (rd q)]] σ K=K (.agg [.bool (rn (GU p q)),.str (rs (GU p q)),.str (rd (GU p q))]) σ:=aS ((bW wH _).trans (BQ _ _ hp hq))
def aph[jE E 59](n m:Bool)(s d t e:ByteArray)(h1:s.size+d.size<=130000000)(h2:t.size+e.size<=130000000):aC E 59 [.agg [.bool n,.str s,.str d],.agg [.bool m,.str t,.str e]] σ K=K (.agg [.bool (rn (GU (rq n s d) (rq m t e))),.str (rs (GU (rq n s d) (rq m t e))),.str (rd (GU (rq n s d) (rq m t e)))]) σ:=aS ((bW wH _).trans (ab ⟨⟨h1,h2⟩,nofun⟩))
end
end Go.Proofs.Xe
namespace Go.Proofs.Xe
open Go.RowKit Go.Proofs.Ins
def adh(tm:Tr V)(d:Nat)(v:V):Tr.ah (Ei tm (some d) v) d=v:=by grind[Tr.ah,Ei,Tr.sV]
def akG(tm:Tr V)(d j:Nat)(v:V)(h:j≠d):Tr.ah (Ei tm (some d) v) j=Tr.ah tm j:=by grind[Tr.ah,Ei,Tr.sV]
def adi(tm:Tr V)(v:V):Ei tm none v=tm:=rfl
def adk(a:V)(l:List V):Tr.ah (ini (a::l)) 0=a:=by grind[Tr.ah,zZ]
def adl(a b:V)(l:List V):Tr.ah (ini (a::b::l)) 1=b:=by grind[Tr.ah,zZ]
def adn(a b c:V)(l:List V):Tr.ah (ini (a::b::c::l)) 2=c:=by grind[Tr.ah,zZ]
def ado(a b c d:V)(l:List V):Tr.ah (ini (a::b::c::d::l)) 3=d:=by grind[Tr.ah,zZ]
def adp(a b c d e:V)(l:List V):Tr.ah (ini (a::b::c::d::e::l)) 4=e:=by grind[Tr.ah,zZ]
def adq(a b c d e f:V)(l:List V):Tr.ah (ini (a::b::c::d::e::f::l)) 5=f:=by grind[Tr.ah,zZ]
def adr(a b c d e f g:V)(l:List V):Tr.ah (ini (a::b::c::d::e::f::g::l)) 6=g:=by simp_all[Tr.ah,zZ]
def awp(tm:Tr V)(i:Nat):O.ev tm (.t i)=Tr.ah tm i:=rfl
def awq(tm:Tr V)(v:V):O.ev tm (.k v)=v:=rfl
def z3(l:List B):(B.bool false::s0::s0::l)=(.bool (rn 0):: .str (rs 0):: .str (rd 0)::l):=rfl
def hset(h:Tr Bk)(b:Nat)(k:Bk):Tr Bk:=h.set b (some k)
theorem aA(h:Tr Bk)(b:Nat)(k:Bk):hset h b k b=some k:=by grind[hset,Tr.sV]
theorem au(h:Tr Bk)(b j:Nat)(k:Bk)(e:j≠b):hset h b k j=h j:=by grind[hset,Tr.sV]
def ld(h:Tr Bk)(b o n:Nat)(g:Bool):Option V:=match h b with|some k=>bif k.rd then yO k.cells o n g else none|none=>none
def sto(h:Tr Bk)(b o:Nat)(vs:List B):Option (Tr Bk):=match h b with
 |some k=>(match bif k.pl then xC k.cells o vs else none with|some l=>some (hset h b ⟨l,k.opn⟩)|none=>none)
 |none=>none
def afV(n:Nat)(g:Bool)(x:O)(tm:Tr V)(σ:St):aaU n g x tm σ=match x.ev tm with|.c (.ptr b o)=>ld σ.h b o n g|_=>none:=rfl
theorem ads(n:Nat)(a x:O)(tm:Tr V)(σ:St):tJ (.store n a x) tm σ=match a.ev tm,(x.ev tm).cells with
  |.c (.ptr b o),some vs=>bif Nat.beq vs.length n then(match sto σ.h b o vs with|some h=>some (.und,⟨h,σ.aj⟩)|none=>none)else none
  |_,_=>none:=by
 unfold tJ sto
 dsimp only
 generalize O.ev tm a=va
 generalize (O.ev tm x).cells=vc
 cases vc with
 |none=>simp
 |some vs=>
  split
  .next b o vs' e=>
   cases e
   dsimp only
   cases Nat.beq vs.length n with
   |false=>rfl
   |true=>
    simp only[cn]
    cases σ.h b with
    |none=>rfl
    |some k=>
     dsimp only
     cases(bif k.pl then xC k.cells o vs else none)with
     |none=>rfl
     |some l=>rfl
  simp
theorem jG(σ:St)(k:Bk):σ.new k=some (σ.aj,⟨hset σ.h σ.aj k,σ.aj+1⟩):=by rfl
def akH(h:Tr Bk)(b:Nat)(k:Bk)(o n:Nat)(g:Bool):ld (hset h b k) b o n g=bif k.rd then yO k.cells o n g else none:=by unfold ld;rw[aA]
def atg(h:Tr Bk)(b j:Nat)(k:Bk)(o n:Nat)(g:Bool)(e:j≠b):ld (hset h b k) j o n g=ld h j o n g:=by grind[ld,au]
def afW(h:Tr Bk)(b:Nat)(k:Bk)(o:Nat)(vs:List B):sto (hset h b k) b o vs=match bif k.pl then xC k.cells o vs else none with|some l=>some (hset (hset h b k) b ⟨l,k.opn⟩)|none=>none:=by unfold sto;rw[aA]
def apj(h:Tr Bk)(b j:Nat)(k:Bk)(o:Nat)(vs:List B)(e:j≠b):sto (hset h b k) j o vs=match h j with|some k'=>(match bif k'.pl then xC k'.cells o vs else none with|some l=>some (hset (hset h b k) j ⟨l,k'.opn⟩)|none=>none)|none=>none:=by grind[sto,au]
def awr{α:Sort _}(a b:α):(bif true then a else b)=a:=rfl
def awt{α:Sort _}(a b:α):(bif false then a else b)=b:=rfl
theorem ES{a b:Nat}(h:a<b):Nat.blt a b=true:=eV h
theorem uY{a b:Nat}(h:a<=b):Nat.ble a b=true:=eV h
theorem aa5(a:Nat):Nat.beq a a=true:=by simp
theorem Nb{a b:Nat}(h:a≠b):Nat.beq a b=false:=by grind[Nat.eq_of_beq_eq_true]
theorem SV{n:Nat}(h:n<=9223372036854775807):mkI .i64 (.ofNat n)=some (.c (.int .i64 (.ofNat n))):=by grind[mkI,anI,IB,uY]
def add_ofNat(a b:Nat):(Int.ofNat a+Int.ofNat b)=Int.ofNat (a+b):=rfl
def aG(a b:Nat):decide (Int.ofNat a<Int.ofNat b)=decide (a<b):=by simp
def WF(σ:St):Prop:=∀b,σ.aj<=b->σ.h b=none
structure Fr(σ σ':St):Prop where
 le:σ.aj<=σ'.aj
 wf:WF σ'
 old:∀b,b<σ.aj->σ'.h b=σ.h b
theorem Fr.refl{σ:St}(h:WF σ):Fr σ σ:=⟨jp,h,λ_ _=>rfl⟩
def Fr.trans{σ σ' MH:St}(h:Fr σ σ')(h':Fr σ' MH):Fr σ MH:=⟨aw h.le h'.le,h'.wf,λb hb=>(h'.old b (aL hb h.le)).trans (h.old b hb)⟩
def WF.lt{σ:St}(h:WF σ){b:Nat}{k:Bk}(hb:σ.h b=some k):b<σ.aj:=by refine Nat.lt_of_not_le λe=>?_;rw[h b e]at hb;cases hb
def WF.dF{σ:St}(h:WF σ){b o n:Nat}{g:Bool}{v:V}(hb:ld σ.h b o n g=some v):b<σ.aj:=by
 unfold ld at hb;split at hb
 .next k hk=>exact h.lt hk
 grind
theorem Fr.ld{σ σ':St}(h:WF σ)(hf:Fr σ σ'){b o n:Nat}{g:Bool}{v:V}(hb:Xe.ld σ.h b o n g=some v):Xe.ld σ'.h b o n g=some v:=by have hlt:=h.dF hb;unfold Xe.ld at hb⊢;rw[hf.old b hlt];exact hb
def Fr.get{σ σ':St}(h:WF σ)(hf:Fr σ σ'){b:Nat}{k:Bk}(hb:σ.h b=some k):σ'.h b=some k:=by rw[hf.old b (h.lt hb)];exact hb
def Fr.new{σ σ':St}(hf:Fr σ σ')(k:Bk):Fr σ ⟨hset σ'.h σ'.aj k,σ'.aj+1⟩:=
 ⟨Nat.le_succ_of_le hf.le,λb hb=>by
  have hb:σ'.aj+1<=b:=hb;show hset σ'.h σ'.aj k b=none;rw[au _ _ _ _ jb];exact hf.wf b jb,λb hb=>by
  show hset σ'.h σ'.aj k b=_;have:=hf.le;rw[au _ _ _ _ jb];exact hf.old b hb⟩
def Fr.set{σ σ':St}(hf:Fr σ σ'){b:Nat}(hb:σ.aj<=b)(hb2:b<σ'.aj)(k:Bk):Fr σ ⟨hset σ'.h b k,σ'.aj⟩:=
 ⟨hf.le,λj hj=>by
  have hj:σ'.aj<=j:=hj;show hset σ'.h b k j=none;rw[au _ _ _ _ jb];exact hf.wf j hj,λj hj=>by
  show hset σ'.h b k j=_;rw[au _ _ _ _ jb];exact hf.old j hj⟩
def HL(h:Tr Bk)(e:Nat)(v:B)(n:Nat)(G:Nat->List B):Prop:=
 (n=0/\v=.aW)\/∃b o c,v=.sl b o n c/\∀i,i<n->ld h b (o+i*e) e true=some (.agg (G i))
def HC(h:Tr Bk)(v:B)(n:Nat)(G:Nat->B):Prop:=
 (n=0/\v=.aW)\/∃b o c,v=.sl b o n c/\∀i,i<n->ld h b (o+i*1) 1 false=some (.c (G i))
def lenV:V->Option V
 |.c (.sl _ _ n _)=>some (.c (.int .i64 (.ofNat n)))
 |.c .aW=>some (.c (.int .i64 (.ofNat 0)))
 |_=>none
def akI(b o n:Nat)(c:Cap):lenV (.c (.sl b o n c))=some (.c (.int .i64 (.ofNat n))):=rfl
def adt:lenV (.c .aW)=some (.c (.int .i64 (.ofNat 0))):=rfl
def HL.len{h:Tr Bk}{e:Nat}{v:B}{n:Nat}{G:Nat->List B}(hl:HL h e v n G):lenV (.c v)=some (.c (.int .i64 (.ofNat n))):=by rcases hl with⟨rfl,rfl⟩|⟨b,o,c,rfl,-⟩<;>rfl
def HC.len{h:Tr Bk}{v:B}{n:Nat}{G:Nat->B}(hl:HC h v n G):lenV (.c v)=some (.c (.int .i64 (.ofNat n))):=by rcases hl with⟨rfl,rfl⟩|⟨b,o,c,rfl,-⟩<;>rfl
def HL.pos{h:Tr Bk}{e:Nat}{v:B}{n:Nat}{G:Nat->List B}(hl:HL h e v n G)(hn:0<n):∃b o c,v=.sl b o n c/\∀i,i<n->ld h b (o+i*e) e true=some (.agg (G i)):=by
 rcases hl with⟨rfl,-⟩|h
 .omega
 .exact h
def HC.pos{h:Tr Bk}{v:B}{n:Nat}{G:Nat->B}(hl:HC h v n G)(hn:0<n):∃b o c,v=.sl b o n c/\∀i,i<n->ld h b (o+i*1) 1 false=some (.c (G i)):=by
 rcases hl with⟨rfl,-⟩|h
 .omega
 .exact h
theorem HL.fr{σ σ':St}(hW:WF σ)(hf:Fr σ σ'){e:Nat}{v:B}{n:Nat}{G:Nat->List B}(hl:HL σ.h e v n G):HL σ'.h e v n G:=by
 rcases hl with h|⟨b,o,c,rfl,h⟩
 .exact .inl h
 .exact .inr ⟨b,o,c,rfl,λi hi=>hf.ld hW (h i hi)⟩
theorem HC.fr{σ σ':St}(hW:WF σ)(hf:Fr σ σ'){v:B}{n:Nat}{G:Nat->B}(hl:HC σ.h v n G):HC σ'.h v n G:=by
 rcases hl with h|⟨b,o,c,rfl,h⟩
 .exact .inl h
 .exact .inr ⟨b,o,c,rfl,λi hi=>hf.ld hW (h i hi)⟩
section
variable (E:Env)
def adu(tm:Tr V)(σ:St)(Q:Tr V->St->Prop):wpOps E [] tm σ Q=Q tm σ:=rfl
def wpOps_cons(o:AO)(r:List AO)(tm:Tr V)(σ:St)(Q:Tr V->St->Prop):wpOps E (o::r) tm σ Q=wpG E o tm σ λv σ'=>wpOps E r (Ei tm o.dst v) σ' Q:=rfl
variable (tm:Tr V) (σ:St) (K:V→St→Prop)
def FZ(o:Option V)(K:V->Prop):Prop:=match o with|some v=>K v|none=>False
def afX(v:V)(K:V->Prop):FZ (some v) K=K v:=rfl
theorem ig{op:uU}(h:op.kind=.q)(h2:∀g l,op≠.call g l):wpOp E op tm σ K=FZ (cZ op tm σ) λv=>K v σ:=by unfold wpOp;grind[oz,FZ]
def apk(c a b:O):wpOp E (.pick c a b) tm σ K=FZ (match c.ev tm with|.c (.bool t)=>some (bif t then a.ev tm else b.ev tm)|_=>none) λv=>K v σ:=ig _ _ _ _ rfl λ_ _ h=>by cases h
def o_load(n:Nat)(g:Bool)(x:O):wpOp E (.load n g x) tm σ K=FZ (match x.ev tm with|.c (.ptr b o)=>ld σ.h b o n g|_=>none) λv=>K v σ:=ig _ _ _ _ rfl λ_ _ h=>by cases h
def akJ(off:Nat)(x:O):wpOp E (.BF off x) tm σ K=FZ (match x.ev tm with|.c (.ptr b o)=>some (.c (.ptr b (o+off)))|_=>none) λv=>K v σ:=by rw[ig _ _ _ _ (by rfl) λ_ _ h=>by cases h];grind[cZ,YR,qh]
def akK(off n:Nat)(g:Bool)(x:O):wpOp E (.field off n g x) tm σ K=FZ (match x.ev tm with|.agg l=>yO l off n g|_=>none) λv=>K v σ:=ig _ _ _ _ rfl λ_ _ h=>by cases h
def iaV(e:Nat)(v:V)(i:V):Option V:=match v,JA i with|.c (.sl b o n _),some j=>(bif Nat.blt j n then some (.c (.ptr b (o+j*e)))else none)|_,_=>none
def akL(e:Nat)(x i:O):wpOp E (.EJ e x i) tm σ K=FZ (iaV e (x.ev tm) (i.ev tm)) λv=>K v σ:=by rw[ig _ _ _ _ (by rfl) λ_ _ h=>by cases h];unfold cZ YS iaV;grind[qh]
def apl(e b o n j:Nat)(c:Cap)(h:j<n):iaV e (.c (.sl b o n c)) (.c (.int .i64 (.ofNat j)))=some (.c (.ptr b (o+j*e))):=by simp_all[iaV,JA,ES]
def ath(i:Nat)(x:O):wpOp E (.ext i x) tm σ K=FZ (afo i x tm) λv=>K v σ:=ig _ _ _ _ rfl λ_ _ h=>by cases h
def afY:Nat->V->Option V
 |0,.aX a _=>some a
 |1,.aX _ (.aX a _)=>some a
 |2,.aX _ (.aX _ (.aX a _))=>some a
 |_,_=>none
def apm(i:Nat)(x:O)(tm:Tr V):afo i x tm=afY i (x.ev tm):=by unfold afo afY;grind
def apn(a r:V):afY 0 (.aX a r)=some a:=rfl
def apo(a b r:V):afY 1 (.aX a (.aX b r))=some b:=rfl
def apq(a b c r:V):afY 2 (.aX a (.aX b (.aX c r)))=some c:=rfl
def ati(b:BinOp)(x y:O):wpOp E (.bin b x y) tm σ K=FZ (ou b (x.ev tm) (y.ev tm)) λv=>K v σ:=ig _ _ _ _ rfl λ_ _ h=>by cases h
def atj(a b:Int):ou .lss (.c (.int .i64 a)) (.c (.int .i64 b))=some (.c (.bool (decide (a<b)))):=rfl
def atl(a b:Int):ou .gtr (.c (.int .i64 a)) (.c (.int .i64 b))=some (.c (.bool (decide (b<a)))):=rfl
def atm(a b:Int):ou .leq (.c (.int .i64 a)) (.c (.int .i64 b))=some (.c (.bool (decide (a<=b)))):=rfl
def atn(a b:Int):ou .geq (.c (.int .i64 a)) (.c (.int .i64 b))=some (.c (.bool (decide (b<=a)))):=rfl
def ato(a b:Int):ou .eql (.c (.int .i64 a)) (.c (.int .i64 b))=some (.c (.bool (decide (a=b)))):=rfl
def atp(a b:Int):ou .neq (.c (.int .i64 a)) (.c (.int .i64 b))=some (.c (.bool (!decide (a=b)))):=rfl
def apr(a b:ByteArray):ou .eql (.c (.str a)) (.c (.str b))=some (.c (.bool (decide (a=b)))):=rfl
def aps(a b:ByteArray):ou .neq (.c (.str a)) (.c (.str b))=some (.c (.bool (!decide (a=b)))):=rfl
def atq(a b:Nat)(h:a+b<=9223372036854775807):ou .add (.c (.int .i64 (.ofNat a))) (.c (.int .i64 (.ofNat b)))=some (.c (.int .i64 (.ofNat (a+b)))):=by show mkI .i64 (Int.ofNat a+Int.ofNat b)=_;rw[add_ofNat,SV h]
def atr(a b:Nat)(h:a<=9223372036854775807)(h2:b<=a):ou .sub (.c (.int .i64 (.ofNat a))) (.c (.int .i64 (.ofNat b)))=some (.c (.int .i64 (.ofNat (a-b)))):=by show mkI .i64 (Int.ofNat a-Int.ofNat b)=_;grind[SV]
def att(p:Bool)(x y:O):wpOp E (.eqb p x y) tm σ K=FZ (match x.ev tm,y.ev tm with|.c (.bool a),.c (.bool b)=>some (.c (.bool (p==(a==b))))|_,_=>none) λv=>K v σ:=ig _ _ _ _ rfl λ_ _ h=>by cases h
def akM(p:Bool)(x y:O):wpOp E (.EL p x y) tm σ K=FZ (match x.ev tm,y.ev tm with|.agg l,.agg r=>(match eqB l r with|some b=>some (.c (.bool (p==b)))|none=>none)|_,_=>none) λv=>K v σ:=ig _ _ _ _ rfl λ_ _ h=>by cases h
def apt(a b c d:Int):eqL [.int .i64 a,.int .i64 b] [.int .i64 c,.int .i64 d]=some (decide (a=c)&&decide (b=d)):=rfl
def akN(p q:Rat):eqB [.bool (rn p),.str (rs p),.str (rd p)] [.bool (rn q),.str (rs q),.str (rd q)]=some (decide (p=q)):=by grind[eqB,eqS,decide,Yx]
def atu(k:Nat)(p:Bool)(v:V):Option V:=match k,v with
 |0,.c (.sl ..)=>some (.c (.bool (!p)))
 |0,.c .aW=>some (.c (.bool p))
 |1,.c (.ptr ..)=>some (.c (.bool (!p)))
 |1,.c .RU=>some (.c (.bool p))
 |2,.fn ..=>some (.c (.bool (!p)))
 |2,.LX=>some (.c (.bool p))
 |_,_=>none
def atv(k:Nat)(p:Bool)(x:O):wpOp E (.nil k p x) tm σ K=FZ (atu k p (x.ev tm)) λv=>K v σ:=ig _ _ _ _ rfl λ_ _ h=>by cases h
def atw(x:O):wpOp E (.not x) tm σ K=FZ (match x.ev tm with|.c (.bool b)=>some (.c (.bool !b))|_=>none) λv=>K v σ:=ig _ _ _ _ rfl λ_ _ h=>by cases h
def akO(z:List B)(ps:List (Nat×Nat×O)):wpOp E (.build z ps) tm σ K=FZ (match BH z (ps.map λp=>(p.1,p.2.1,p.2.2.ev tm))with|some l=>some (.agg l)|none=>none) λv=>K v σ:=ig _ _ _ _ rfl λ_ _ h=>by cases h
def apu(f:Nat)(cs:List O):wpOp E (.O4 f cs) tm σ K=FZ (match YP tm cs with|some l=>some (.fn f l)|none=>none) λv=>K v σ:=ig _ _ _ _ rfl λ_ _ h=>by cases h
def atx(x:O):wpOp E (.len x) tm σ K=FZ (lenV (x.ev tm)) λv=>K v σ:=ig _ _ _ _ rfl λ_ _ h=>by cases h
def apv(x:O):wpOp E (.O5 x) tm σ K=FZ (match x.ev tm with|.c (.ptr b o)=>some (.c (.ptr b o))|.fn f l=>some (.fn f l)|_=>none) λv=>K v σ:=ig _ _ _ _ rfl λ_ _ h=>by cases h
def akP(z:List B):wpOp E (.alloc z) tm σ K=K (.c (.ptr σ.aj 0)) ⟨hset σ.h σ.aj ⟨z,none⟩,σ.aj+1⟩:=by rfl
def aty(x:O):wpOp E (.box x) tm σ K=match(x.ev tm).cells with|some l=>K (.c (.ptr σ.aj 0)) ⟨hset σ.h σ.aj ⟨l,none⟩,σ.aj+1⟩|none=>False:=by grind[wpOp,oz,uU.kind,mZ,jG]
def apw(bytes:Nat)(z:List B)(l c:O):wpOp E (.JK bytes z l c) tm σ K=match JA (l.ev tm),JA (c.ev tm)with
  |some n,some m=>(bif Nat.ble n m&&(Nat.ble (bytes*m) 281474976710656&&Nat.ble m 1073741824)then K (.c (.sl σ.aj 0 n (.ex m))) ⟨hset σ.h σ.aj ⟨rep z m,none⟩,σ.aj+1⟩else False)
  |_,_=>False:=by
 grind[wpOp,oz,uU.kind,mZ,jG]
def atz(e n:Nat)(z:List B)(ps:List (Nat×Nat×O))(h:n*e<=16777216)(h':n<=16777216):wpOp E (.bsl e n z ps) tm σ K=match BH (rep z n) (ps.map λp=>(p.1,p.2.1,p.2.2.ev tm))with
  |some l=>K (.c (.sl σ.aj 0 n (.ex n))) ⟨hset σ.h σ.aj ⟨l,none⟩,σ.aj+1⟩|none=>False:=by
 grind[wpOp,oz,uU.kind,mZ,jG,uY]
def akQ(n:Nat)(a x:O):wpOp E (.store n a x) tm σ K=match a.ev tm,(x.ev tm).cells with
  |.c (.ptr b o),some vs=>(bif Nat.beq vs.length n then(match sto σ.h b o vs with|some h=>K .und ⟨h,σ.aj⟩|none=>False)else False)
  |_,_=>False:=by
 grind[wpOp,oz,uU.kind,ads]
def apx(g:O)(args:List O):wpOp E (.call g args) tm σ K=match g.ev tm with|.fn f caps=>aC E f (args.map (·.ev tm)++caps.map .c) σ K|_=>False:=rfl
end
end Go.Proofs.Xe
end
