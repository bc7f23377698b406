import Derived.Test.YtjhhfbbndfpdaaaGreatDoorYg9
set_option linter.all false
set_option maxRecDepth 100000
noncomputable section
namespace Go.Proofs.Xe
open Go.RowKit Go.Proofs.Ins
def szK:Nat:=60000000
def Sz(q:Rat):Prop:=Sm szK q
def FH(a:Nat):Prop:=(bn a).size<=60000000
noncomputable abbrev rK(x:Rat):List B:=[.bool (rn x),.str (rs x),.str (rd x)]
def rV(q:Rat):V:=.agg (rK q)
def rbV(q:Rat)(b:Bool):V:=.aV (rV q) (.aV (.c (.bool b)) .tnil)
def iV(i:Int):V:=.c (.int .i64 i)
def Sz.sizes{p:Rat}(h:Sz p):(rs p).size<=60000000/\(rd p).size<=60000000:=⟨Sm.rs h,Sm.rd h⟩
def aa7{a b:Nat}(h:bn a=bn b):a=b:=by rw[<-gU a,<-gU b,h]
abbrev kb(b:Bool):O:=.k (.c (.bool b))
abbrev d(n:Nat):Option Nat:=some n
abbrev s0:B:=.str ⟨#[]⟩
abbrev i0:B:=.int .i64 (.ofNat 0)
def Ij(c:Bool)(R:Rat->Rat->V):List V->Option V
 |[.agg [.bool n,.str s,.str d],.agg [.bool m,.str t,.str e]]=>if(s.size+d.size<=130000000/\t.size+e.size<=130000000)/\(c=true->Me n s d/\Me m t e)then some (R (rq n s d) (rq m t e))else none
 |_=>none
def UA(c:Bool)(R:Rat->V):List V->Option V
 |[.agg [.bool n,.str s,.str d]]=>if s.size+d.size<=130000000/\(c=true->Me n s d)then some (R (rq n s d))else none
 |_=>none
def kVd:List V->Option V
 |[.agg [.bool n,.str s,.str d]]=>if s.size+d.size<=130000000 then some (.c (.bool (decide (Me n s d))))else none
 |_=>none
def kN1(R:Nat->V):List V->Option V
 |[.c (.str s)]=>if s.size<=1073741824 then some (R (nv s))else none
 |_=>none
def kN2(R:Nat->Nat->Option V):List V->Option V
 |[.c (.str s),.c (.str t)]=>if s.size<=500000000/\t.size<=500000000 then R (nv s) (nv t)else none
 |_=>none
def kG2(R:Nat->Nat->V):List V->Option V
 |[.c (.str s),.c (.str t)]=>if s.size<=500000000/\t.size<=500000000 then some (R (nv s) (nv t))else none
 |_=>none
def kU1(R:Rat->V):List V->Option V
 |[.agg [.bool n,.str s,.str d]]=>if Me n s d then some (R (rq n s d))else none
 |_=>none
def kU3(R:Nat->Nat->Nat->V):List V->Option V
 |[.c (.int .u32 (.ofNat x)),.c (.int .u32 (.ofNat y)),.c (.int .u32 (.ofNat b))]=>if x<4294967296/\y<4294967296/\b<=1 then some (R x y b)else none
 |_=>none
def kB3(R:Bool->Nat->Nat->Option V):List V->Option V
 |[.c (.bool n),.c (.str s),.c (.str t)]=>if s.size<=500000000/\t.size<=500000000 then R n (nv s) (nv t)else none
 |_=>none
def kI(k:IntKind)(l h:Int)(R:Int->V):List V->Option V
 |[.c (.int j i)]=>if j=k/\l<=i/\i<=h then some (R i)else none
 |_=>none
def kQ(R:Int->Int->V):List V->Option V
 |[.c (.int j i),.c (.int k m)]=>if(j=.i64/\0<=i/\i<23)/\k=.i64/\0<m/\(m<7\/m=8)then some (R i m)else none
 |_=>none
def Ai(c:Bool)(R:Rat->Rat->V){p q:Rat}(hp:Sz p)(hq:Sz q):Ij c R [rV p,rV q]=some (R p q):=by unfold Ij rV;have:=hp.sizes;have:=hq.sizes;simp only;rw[ab ⟨jb,λ_=>⟨BM p,BM q⟩⟩,DN,DN]
def abJ(c:Bool)(R:Rat->V){p:Rat}(hp:Sz p):UA c R [rV p]=some (R p):=by unfold UA rV;have:=hp.sizes;simp only;rw[ab ⟨jb,λ_=>BM p⟩,DN]
def asO{p:Rat}(hp:Sz p):kVd [rV p]=some (.c (.bool true)):=by unfold kVd rV;have:=hp.sizes;simp only;rw[ab jb,aq (BM p)]
def P7(R:Nat->Nat->Option V){a b:Nat}{v:V}(ha:FH a)(hb:FH b)(h:R a b=some v):kN2 R [.c (.str (bn a)),.c (.str (bn b))]=some v:=by unfold kN2 FH at*;simp only;rw[ab jb,gU,gU,h]
def asP(R:Bool->Nat->Nat->Option V){n:Bool}{a b:Nat}{v:V}(ha:FH a)(hb:FH b)(h:R n a b=some v):kB3 R [.c (.bool n),.c (.str (bn a)),.c (.str (bn b))]=some v:=by unfold kB3 FH at*;simp only;rw[ab jb,gU,gU,h]
noncomputable section
def iK(f:Nat):List V->Option V:=
 bif Nat.beq f 195 then(kU3 λx y b=>.aV (.c (.int .u32 (.ofNat ((x+8589934592-(y+b))%4294967296)))) (.aV (.c (.int .u32 (.ofNat (if x<y+b then 1 else 0)))) .tnil))else
 bif Nat.beq f 208 then(kI .u32 1 4294967295 λi=>jN (lz i.toNat))else
 bif Nat.beq f 138 then(kN1 λa=>.c (.str (bn a)))else
 bif Nat.beq f 98 then(kN2 λa b=>some (iV (rQ a b)))else
 bif Nat.beq f 136 then(kN2 λa b=>some (.c (.str (bn (a+b)))))else
 bif Nat.beq f 99 then(kN2 λa b=>some (.c (.str (bn (a*b)))))else
 bif Nat.beq f 148 then(kN2 λa b=>some (.c (.str (bn (Nat.gcd a b)))))else
 bif Nat.beq f 137 then(kN2 λa b=>some (if b<=a then .aV (.c (.str (bn (a-b)))) (.aV (.c (.bool true)) .tnil)else .aV (.c (.str ⟨#[]⟩)) (.aV (.c (.bool false)) .tnil)))else
 bif Nat.beq f 153 then(kN2 λa b=>if 0<b then some (.aV (.c (.str (bn (a/b)))) (.aV (.c (.str (bn (a%b)))) (.aV (.c (.bool true)) .tnil)))else none)else
 bif Nat.beq f 154 then(kI .u64 0 18446744073709551615 λi=>.c (.str (bn i.toNat)))else
 bif Nat.beq f 20 then(kI .i64 0 100 λi=>rV i)else
 bif Nat.beq f 19 then(kQ λi j=>rV ((i:Rat)/(j:Rat)))else
 bif Nat.beq f 9 then(kI .u16 0 65535 λi=>rV (amt i.toNat))else
 bif Nat.beq f 100 then(UA true λp=>.c (.str (bn p.den)))else
 bif Nat.beq f 108 then kVd else
 bif Nat.beq f 73 then(UA false λp=>rV p)else
 bif Nat.beq f 115 then(kB3 λn a b=>if 0<b then some (rV (fr n a b))else none)else
 bif Nat.beq f 166 then(kB3 λn a b=>some (if b=0 then rbV 0 false else rbV (fr n a b) true))else
 bif Nat.beq f 116 then(kI .i64 (-9223372036854775808) 9223372036854775807 λi=>.c (.str (bn i.natAbs)))else
 bif Nat.beq f 81 then(kI .i64 (-9223372036854775808) 9223372036854775807 λi=>rV i)else
 bif Nat.beq f 72 then(UA true λp=>iV (sg p))else
 bif Nat.beq f 49 then(UA false λp=>iV (sg p))else
 bif Nat.beq f 97 then(UA true λp=>rV (-p))else
 bif Nat.beq f 96 then(Ij true λp q=>rV (p+q))else
 bif Nat.beq f 92 then(Ij false λp q=>rV (p+q))else
 bif Nat.beq f 55 then(Ij false λp q=>rV (p-q))else
 bif Nat.beq f 135 then(Ij false λp q=>rV (p*q))else
 bif Nat.beq f 133 then(Ij false λp q=>rbV (Jb p q) (okR q))else
 bif Nat.beq f 56 then(Ij false λp q=>iV (mW p q))else
 bif Nat.beq f 149 then(Ij false λp q=>rV (KN p q))else
 bif Nat.beq f 54 then(Ij false λp q=>rV (sH p q))else
 bif Nat.beq f 59 then(kN1 λa=>.c (.str (bn a)))else
 bif Nat.beq f 63 then(kG2 λa b=>.c (.str (bn (Nat.gcd a b))))else
 bif Nat.beq f 38 then kVd else
 bif Nat.beq f 18 then(UA false λp=>rV p)else
 bif Nat.beq f 67 then(UA true λp=>rV (-p))else
 bif Nat.beq f 41 then(kU1 λp=>iV (sg p))else
 bif Nat.beq f 17 then(Ij true λp q=>rV (p+q))else
 bif Nat.beq f 42 then(Ij true λp q=>rV (p-q))else
 bif Nat.beq f 22 then(Ij false λp q=>iV (mW p q))else
 bif Nat.beq f 8 then(Ij false λp q=>rV (p+q))else
 λ_=>none
end
class ji (E:Env) (f:Nat):Prop where
 o:∀args v J,iK f args=some v->E.Yr f args J=some (v,J)
def aiY{E:Env}{f:Nat}{args:List V}{v:V}{J σ2:St}{K:V->St->Prop}(h:E.Yr f args J=some (v,σ2)):aC E f args J K=K v σ2:=by
 refine propext ⟨λ⟨n,v',J',h1,h2⟩=>?_,λhk=>YT h hk⟩;have h3:jl E 1 f args J=some (v,σ2):=by rw[jl];unfold IX;rw[h]
 have a:=oQ (show n<=n+1 by omega) f args J _ h1;have b:=oQ (show 1<=n+1 by omega) f args J _ h3;rw[a]at b;cases b;exact h2
def aS{E:Env}{f:Nat}[hE:ji E f]{args:List V}{v:V}{J:St}{K:V->St->Prop}(h:iK f args=some v):aC E f args J K=K v J:=aiY (hE.o args v J h)
def P8(P:Program)(f:Nat):Bool:=match P.funcs[f]? with|some fn=> !fn.body.isNone&& !(fn.name== "runtime.NumGoroutine")|none=>false
def sJ{P:Program}{f:Nat}(h:P8 P f=true):okF P f:=by
 unfold P8 at h;split at h
 .next fn hfn=>
  simp only[ap,gR]at h;exact⟨fn,hfn,h.1,h.2⟩
 .cases h
def Ct(P:Program)(f:Nat)(v:V)(bH:Array Value)(w:World):Prop:=
 Calls P f bH w λe w'=>∃cv,e=.returned cv/\Below w.heap.size w w'/\∀φ',RV φ' v cv
class vJ (f:Nat):Prop where
 k:okF Tryz.prog f
 c:∀args v,iK f args=some v->∀(φ:Ph) (bH:Array Value) (w:World),IY φ args bH.toList->Ct Tryz.prog f v bH w
class OkL (l:List Nat):Prop where
 o:∀f,l.contains f=true->vJ f
class Mm (f:Nat) (l:List Nat):Prop where
 h:l.contains f=true
instance:OkL []:=⟨nofun⟩
instance {f:Nat}{l:List Nat} [h:vJ f] [hl:OkL l]:OkL (f::l):=⟨λg hg=>by
 rw[List.contains_cons,Bool.or_eq_true]at hg;rcases hg with hg|hg
 .rw[eq_of_beq hg];exact h
 .exact hl.o g hg⟩
instance {f:Nat}{l:List Nat}:Mm f (f::l):=⟨by simp⟩
instance {f g:Nat}{l:List Nat} [h:Mm f l]:Mm f (g::l):=⟨by simpa using .inr (by simpa using h.h)⟩
def Eb(l:List Nat):Env:=⟨tF Tryz.prog,λf args J=>bif l.contains f then(match iK f args with|some v=>some (v,J)|none=>none)else none⟩
instance {f:Nat}{l:List Nat} [h:Mm f l]:ji (Eb l) f:=⟨λargs v J hv=>by unfold Eb;dsimp only;rw[h.h,hv];rfl⟩
def vJ.Yr{f:Nat}(h:vJ f){args:List V}{J J':St}{v:V}(ho:(match iK f args with|some v=>some (v,J)|none=>none)=some (v,J')):okF Tryz.prog f/\∀(N:Nat) (w0:World) (φ:Ph) (w:World) (bH:Array Value),Rel N w0 φ J w->IY φ args bH.toList->
  Calls Tryz.prog f bH w λe w'=>∃cv,e=.returned cv/\∃φ',Ext J.aj φ φ'/\Rel N w0 φ' J' w'/\RV φ' v cv/\J.aj<=J'.aj:=by
 split at ho
 .next u hu=>
  cases ho
  refine⟨h.k,λN w0 φ w bH hR ha=>(h.c _ _ hu φ bH w ha).mono λe w' he=>?_⟩
  obtain⟨cv,rfl,hb,hv⟩:=he
  exact⟨cv,rfl,φ,Ext.refl _ _,hR.below hb,hv φ,jp⟩
 .cases ho
def CW{l:List Nat}[h:OkL l]:PW Tryz.prog (Eb l):=by
 refine⟨λf F h=>aiS h,λf args J v J' ho=>?_⟩;unfold Eb at ho;dsimp only at ho;cases hc:l.contains f with
 |false=>rw[hc]at ho;cases ho
 |true=>rw[hc]at ho;exact(h.o f hc).Yr ho
def fB:B->Bool
 |.int ..|.bool _|.str _=>true
 |_=>false
def fV:V->Bool
 |.c x=>fB x
 |.agg l=>l.all fB
 |.aV a r=>fV a&&fV r
 |.tnil=>true
 |_=>false
section
variable {φ φ' : Ph}
def RB.flat{x:B}{v:Value}(h:fB x=true)(hv:RB φ x v):RB φ' x v:=by cases x<;>first|exact hv|cases h
def lX.flat:∀{l:List B}{r:List Value},l.all fB=true->lX φ l r->lX φ' l r
 |[],[],_,_=>trivial
 |_::_,_::_,h,hv=>by rw[cy,ap]at h;exact⟨hv.1.flat h.1,lX.flat h.2 hv.2⟩
 |[],_::_,_,hv=>hv.elim
 |_::_,[],_,hv=>hv.elim
def RV.flat:∀{x:V}{v:Value},fV x=true->RV φ x v->RV φ' x v
 |.c _,_,h,hv=>RB.flat h hv
 |.agg _,_,h,⟨r,e,hr⟩=>⟨r,e,hr.flat h⟩
 |.aV _ _,_,h,⟨x,xs,e,h1,h2⟩=>by unfold fV at h;rw[ap]at h;exact⟨x,xs,e,h1.flat h.1,h2.flat h.2⟩
 |.tnil,_,_,hv=>hv
def IY.flat:∀{l:List V}{r:List Value},l.all fV=true->IY φ l r->IY φ' l r
 |[],[],_,_=>trivial
 |_::_,_::_,h,hv=>by rw[cy,ap]at h;exact⟨hv.1.flat h.1,IY.flat h.2 hv.2⟩
 |[],_::_,_,hv=>hv.elim
 |_::_,[],_,hv=>hv.elim
end
def aAZ(w:World):Rel w.heap.size w (λ_=>none) ⟨.leaf,0⟩ w:=
 ⟨jp,Below.refl _ _,nofun,nofun,nofun,nofun,λb _=>⟨rfl,Tr.IL b⟩⟩
def uN{E:Env}(hE:PW Tryz.prog E){f:Nat}{args:List V}{v:V}(ha:args.all fV=true)(hv:fV v=true)(h:aC E f args ⟨.leaf,0⟩ λr _=>r=v)(φ:Ph)(bH:Array Value)(w:World)(hr:IY φ args bH.toList):Ct Tryz.prog f v bH w:=by obtain⟨n,r,J',h1,rfl⟩:=h;refine(Uz hE (by kernel_rfl) h1 (aAZ w) (hr.flat ha)).mono λe w' he=>?_;obtain⟨cv,rfl,φ',-,hR,hc,-⟩:=he;exact⟨cv,rfl,hR.bel,λφ=>hc.flat hv⟩
structure qW(k:Nat) where
 a:AF
 g:tG Tryz.prog k=some a:=by conv=>(lhs;reduce;simp only[ars,axw])
 i:YJ Tryz.prog k a=true:=by kernel_rfl
def dO{f:Nat}{l:List Nat}(b:qW f)(hl:l.contains f=false){args:List V}{J:St}{K:V->St->Prop}(h:bM (Eb l) b.a.body (ini args) J (abH b.a.res K)):aC (Eb l) f args J K:=
 aN (by unfold Eb;dsimp only;rw[hl];rfl) (arq b.g b.i) h
section
variable {E:Env} {J:St} {K:V→St→Prop}
def zL:iK 195=kU3 (λx y b=>.aV (.c (.int .u32 (.ofNat ((x+8589934592-(y+b))%4294967296)))) (.aV (.c (.int .u32 (.ofNat (if x<y+b then 1 else 0)))) .tnil)):=rfl
def oU:iK 208=kI .u32 1 4294967295 (λi=>jN (lz i.toNat)):=rfl
def qg:iK 138=kN1 (λa=>.c (.str (bn a))):=rfl
def zN:iK 98=kN2 (λa b=>some (iV (rQ a b))):=rfl
def Aj:iK 136=kN2 (λa b=>some (.c (.str (bn (a+b))))):=rfl
def asQ[ji E 136](a b:Nat)(h1:FH a)(h2:FH b):aC E 136 [.c (.str (bn a)),.c (.str (bn b))] J K=K (.c (.str (bn (a+b)))) J:=aS ((bz Aj _).trans (P7 _ h1 h2 (by first|rfl|simp)))
def qX:iK 99=kN2 (λa b=>some (.c (.str (bn (a*b))))):=rfl
def YV[ji E 99](a b:Nat)(h1:FH a)(h2:FH b):aC E 99 [.c (.str (bn a)),.c (.str (bn b))] J K=K (.c (.str (bn (a*b)))) J:=aS ((bz qX _).trans (P7 _ h1 h2 (by first|rfl|simp)))
def Ak:iK 148=kN2 (λa b=>some (.c (.str (bn (Nat.gcd a b))))):=rfl
def asR[ji E 148](a b:Nat)(h1:FH a)(h2:FH b):aC E 148 [.c (.str (bn a)),.c (.str (bn b))] J K=K (.c (.str (bn (Nat.gcd a b)))) J:=aS ((bz Ak _).trans (P7 _ h1 h2 (by first|rfl|simp)))
def qY:iK 137=kN2 (λa b=>some (if b<=a then .aV (.c (.str (bn (a-b)))) (.aV (.c (.bool true)) .tnil)else .aV (.c (.str ⟨#[]⟩)) (.aV (.c (.bool false)) .tnil))):=rfl
def YW[ji E 137](a b:Nat)(h1:FH a)(h2:FH b):aC E 137 [.c (.str (bn a)),.c (.str (bn b))] J K=K (if b<=a then .aV (.c (.str (bn (a-b)))) (.aV (.c (.bool true)) .tnil)else .aV (.c (.str ⟨#[]⟩)) (.aV (.c (.bool false)) .tnil)) J:=aS ((bz qY _).trans (P7 _ h1 h2 (by first|rfl|simp)))
def uO:iK 153=kN2 (λa b=>if 0<b then some (.aV (.c (.str (bn (a/b)))) (.aV (.c (.str (bn (a%b)))) (.aV (.c (.bool true)) .tnil)))else none):=rfl
def afZ[ji E 153](a b:Nat)(h1:FH a)(h2:FH b)(h0:0<b):aC E 153 [.c (.str (bn a)),.c (.str (bn b))] J K=K (.aV (.c (.str (bn (a/b)))) (.aV (.c (.str (bn (a%b)))) (.aV (.c (.bool true)) .tnil))) J:=aS ((bz uO _).trans (P7 _ h1 h2 (ab h0)))
def qZ:iK 154=kI .u64 0 18446744073709551615 (λi=>.c (.str (bn i.toNat))):=rfl
def YX[ji E 154](x:Nat)(h1:x<18446744073709551616):aC E 154 [.c (.int .u64 (.ofNat x))] J K=K (.c (.str (bn x))) J:=aS ((bz qZ _).trans (ab ⟨rfl,by simp,by simp only[cB];omega⟩))
def Jc:iK 20=kI .i64 0 100 (λi=>rV i):=rfl
def YZ[ji E 20](x:Nat)(h1:x<=100):aC E 20 [jN x] J K=K (.agg (rK ((Int.ofNat x:Int):Rat))) J:=aS ((bz Jc _).trans (ab ⟨rfl,by simp,by simp only[cB];omega⟩))
def Wq:iK 19=kQ (λi j=>rV ((i:Rat)/(j:Rat))):=rfl
def Gy:iK 9=kI .u16 0 65535 (λi=>rV (amt i.toNat)):=rfl
def af0[ji E 9](x:Nat)(h1:x<=65535):aC E 9 [.c (.int .u16 (.ofNat x))] J K=K (.agg (rK (amt x))) J:=aS ((bz Gy _).trans (ab ⟨rfl,by simp,by simp only[cB];omega⟩))
def fK:iK 100=UA true (λp=>.c (.str (bn p.den))):=rfl
def uP:iK 108=kVd:=rfl
def adV[ji E 108](p:Rat)(hp:Sz p):aC E 108 [.agg (rK p)] J K=K (.c (.bool true)) J:=aS ((bz uP _).trans (asO hp))
def pI:iK 73=UA false (λp=>rV p):=rfl
def anK[ji E 73](p:Rat)(hp:Sz p):aC E 73 [.agg (rK p)] J K=K (.agg (rK p)) J:=aS ((bz pI _).trans (abJ _ _ hp))
def Y0[ji E 73](n:Bool)(s d:ByteArray)(h1:s.size+d.size<=130000000):aC E 73 [.agg [.bool n,.str s,.str d]] J K=K (.agg (rK (rq n s d))) J:=aS ((bz pI _).trans (ab ⟨h1,nofun⟩))
def yB:iK 115=kB3 (λn a b=>if 0<b then some (rV (fr n a b))else none):=rfl
def wJ:iK 166=kB3 (λn a b=>some (if b=0 then rbV 0 false else rbV (fr n a b) true)):=rfl
def asT[ji E 166](n:Bool)(a b:Nat)(h1:FH a)(h2:FH b)(h0:0<b):aC E 166 [.c (.bool n),.c (.str (bn a)),.c (.str (bn b))] J K=K (.aV (.agg (rK (fr n a b))) (.aV (.c (.bool true)) .tnil)) J:=aS ((bz wJ _).trans (asP _ h1 h2 (by rw[ae jb];rfl)))
def vX:iK 116=kI .i64 (-9223372036854775808) 9223372036854775807 (λi=>.c (.str (bn i.natAbs))):=rfl
def Ei:iK 81=kI .i64 (-9223372036854775808) 9223372036854775807 (λi=>rV i):=rfl
def axx[ji E 81](i:Int)(h1: -9223372036854775808<=i)(h2:i<=9223372036854775807):aC E 81 [.c (.int .i64 i)] J K=K (.agg (rK i)) J:=aS ((bz Ei _).trans (ab ⟨rfl,h1,h2⟩))
def kK:iK 72=UA true (λp=>iV (sg p)):=rfl
def wK:iK 49=UA false (λp=>iV (sg p)):=rfl
def asU[ji E 49](p:Rat)(hp:Sz p):aC E 49 [.agg (rK p)] J K=K (.c (.int .i64 (sg p))) J:=aS ((bz wK _).trans (abJ _ _ hp))
def anL[ji E 49](n:Bool)(s d:ByteArray)(h1:s.size+d.size<=130000000):aC E 49 [.agg [.bool n,.str s,.str d]] J K=K (.c (.int .i64 (sg (rq n s d)))) J:=aS ((bz wK _).trans (ab ⟨h1,nofun⟩))
def sK:iK 97=UA true (λp=>rV (-p)):=rfl
def aiZ[ji E 97](p:Rat)(hp:Sz p):aC E 97 [.agg (rK p)] J K=K (.agg (rK (-p))) J:=aS ((bz sK _).trans (abJ _ _ hp))
def sN:iK 96=Ij true (λp q=>rV (p+q)):=rfl
def axy[ji E 96](p q:Rat)(hp:Sz p)(hq:Sz q):aC E 96 [.agg (rK p),.agg (rK q)] J K=K (.agg (rK (p+q))) J:=aS ((bz sN _).trans (Ai _ _ hp hq))
def yC:iK 92=Ij false (λp q=>rV (p+q)):=rfl
def axz[ji E 92](p q:Rat)(hp:Sz p)(hq:Sz q):aC E 92 [.agg (rK p),.agg (rK q)] J K=K (.agg (rK (p+q))) J:=aS ((bz yC _).trans (Ai _ _ hp hq))
def asV[ji E 92](n m:Bool)(s d t e:ByteArray)(h1:s.size+d.size<=130000000)(h2:t.size+e.size<=130000000):aC E 92 [.agg [.bool n,.str s,.str d],.agg [.bool m,.str t,.str e]] J K=K (.agg (rK ((rq n s d)+(rq m t e)))) J:=aS ((bz yC _).trans (ab ⟨⟨h1,h2⟩,nofun⟩))
def qh:iK 55=Ij false (λp q=>rV (p-q)):=rfl
def abK[ji E 55](p q:Rat)(hp:Sz p)(hq:Sz q):aC E 55 [.agg (rK p),.agg (rK q)] J K=K (.agg (rK (p-q))) J:=aS ((bz qh _).trans (Ai _ _ hp hq))
def Y1[ji E 55](n m:Bool)(s d t e:ByteArray)(h1:s.size+d.size<=130000000)(h2:t.size+e.size<=130000000):aC E 55 [.agg [.bool n,.str s,.str d],.agg [.bool m,.str t,.str e]] J K=K (.agg (rK ((rq n s d)-(rq m t e)))) J:=aS ((bz qh _).trans (ab ⟨⟨h1,h2⟩,nofun⟩))
def xw:iK 135=Ij false (λp q=>rV (p*q)):=rfl
def abL[ji E 135](p q:Rat)(hp:Sz p)(hq:Sz q):aC E 135 [.agg (rK p),.agg (rK q)] J K=K (.agg (rK (p*q))) J:=aS ((bz xw _).trans (Ai _ _ hp hq))
def zO:iK 133=Ij false (λp q=>rbV (Jb p q) (okR q)):=rfl
def ai0[ji E 133](p q:Rat)(hp:Sz p)(hq:Sz q):aC E 133 [.agg (rK p),.agg (rK q)] J K=K (.aV (.agg (rK (Jb p q))) (.aV (.c (.bool (okR q))) .tnil)) J:=aS ((bz zO _).trans (Ai _ _ hp hq))
def jI:iK 56=Ij false (λp q=>iV (mW p q)):=rfl
def af2[ji E 56](p q:Rat)(hp:Sz p)(hq:Sz q):aC E 56 [.agg (rK p),.agg (rK q)] J K=K (.c (.int .i64 (mW p q))) J:=aS ((bz jI _).trans (Ai _ _ hp hq))
def abM[ji E 56](n m:Bool)(s d t e:ByteArray)(h1:s.size+d.size<=130000000)(h2:t.size+e.size<=130000000):aC E 56 [.agg [.bool n,.str s,.str d],.agg [.bool m,.str t,.str e]] J K=K (.c (.int .i64 (mW (rq n s d) (rq m t e)))) J:=aS ((bz jI _).trans (ab ⟨⟨h1,h2⟩,nofun⟩))
def yD:iK 149=Ij false (λp q=>rV (KN p q)):=rfl
def axA[ji E 149](p q:Rat)(hp:Sz p)(hq:Sz q):aC E 149 [.agg (rK p),.agg (rK q)] J K=K (.agg (rK (KN p q))) J:=aS ((bz yD _).trans (Ai _ _ hp hq))
def asW[ji E 149](n m:Bool)(s d t e:ByteArray)(h1:s.size+d.size<=130000000)(h2:t.size+e.size<=130000000):aC E 149 [.agg [.bool n,.str s,.str d],.agg [.bool m,.str t,.str e]] J K=K (.agg (rK (KN (rq n s d) (rq m t e)))) J:=aS ((bz yD _).trans (ab ⟨⟨h1,h2⟩,nofun⟩))
def yE:iK 54=Ij false (λp q=>rV (sH p q)):=rfl
def axB[ji E 54](p q:Rat)(hp:Sz p)(hq:Sz q):aC E 54 [.agg (rK p),.agg (rK q)] J K=K (.agg (rK (sH p q))) J:=aS ((bz yE _).trans (Ai _ _ hp hq))
def asX[ji E 54](n m:Bool)(s d t e:ByteArray)(h1:s.size+d.size<=130000000)(h2:t.size+e.size<=130000000):aC E 54 [.agg [.bool n,.str s,.str d],.agg [.bool m,.str t,.str e]] J K=K (.agg (rK (sH (rq n s d) (rq m t e)))) J:=aS ((bz yE _).trans (ab ⟨⟨h1,h2⟩,nofun⟩))
def Bc:iK 59=kN1 (λa=>.c (.str (bn a))):=rfl
def P9:iK 63=kG2 (λa b=>.c (.str (bn (Nat.gcd a b)))):=rfl
def Jd:iK 38=kVd:=rfl
def Qa:iK 18=UA false (λp=>rV p):=rfl
def CX:iK 67=UA true (λp=>rV (-p)):=rfl
def Gz:iK 41=kU1 (λp=>iV (sg p)):=rfl
def Ej:iK 17=Ij true (λp q=>rV (p+q)):=rfl
def Je:iK 42=Ij true (λp q=>rV (p-q)):=rfl
def Em:iK 22=Ij false (λp q=>iV (mW p q)):=rfl
def abN[ji E 22](p q:Rat)(hp:Sz p)(hq:Sz q):aC E 22 [.agg (rK p),.agg (rK q)] J K=K (.c (.int .i64 (mW p q))) J:=aS ((bz Em _).trans (Ai _ _ hp hq))
def Qb:iK 8=Ij false (λp q=>rV (p+q)):=rfl
def asY[ji E 8](p q:Rat)(hp:Sz p)(hq:Sz q):aC E 8 [.agg (rK p),.agg (rK q)] J K=K (.agg (rK (p+q))) J:=aS ((bz Qb _).trans (Ai _ _ hp hq))
end
end Go.Proofs.Xe
namespace Go.Proofs.Xe
open Go.RowKit Go.Proofs.Ins
def af4(tm:Tr V)(d:Nat)(v:V):r8 (Gh tm (some d) v) d=v:=by grind[r8,Gh,Tr.vI]
def anM(tm:Tr V)(d j:Nat)(v:V)(h:j≠d):r8 (Gh tm (some d) v) j=r8 tm j:=by grind[r8,Gh,Tr.vI]
def af5(tm:Tr V)(v:V):Gh tm none v=tm:=rfl
def af6(a:V)(l:List V):r8 (ini (a::l)) 0=a:=by grind[r8,xM]
def af7(a b:V)(l:List V):r8 (ini (a::b::l)) 1=b:=by grind[r8,xM]
def af8(a b c:V)(l:List V):r8 (ini (a::b::c::l)) 2=c:=by grind[r8,xM]
def af9(a b c d:V)(l:List V):r8 (ini (a::b::c::d::l)) 3=d:=by grind[r8,xM]
def aga(a b c d e:V)(l:List V):r8 (ini (a::b::c::d::e::l)) 4=e:=by grind[r8,xM]
def agb(a b c d e f:V)(l:List V):r8 (ini (a::b::c::d::e::f::l)) 5=f:=by grind[r8,xM]
def agc(a b c d e f g:V)(l:List V):r8 (ini (a::b::c::d::e::f::g::l)) 6=g:=by simp_all[r8,xM]
def agd(a b c d e f g i:V)(l:List V):r8 (ini (a::b::c::d::e::f::g::i::l)) 7=i:=by simp_all[r8,xM]
def aA0(tm:Tr V)(i:Nat):O.ev tm (.t i)=r8 tm i:=rfl
def aA1(tm:Tr V)(v:V):O.ev tm (.k v)=v:=rfl
def z3(l:List B):(B.bool false::s0::s0::l)=(.bool (rn 0):: .str (rs 0):: .str (rd 0)::l):=rfl
def hset(h:Tr Bk)(b:Nat)(k:Bk):Tr Bk:=h.set b (some k)
theorem ay(h:Tr Bk)(b:Nat)(k:Bk):hset h b k b=some k:=by grind[hset,Tr.vI]
theorem ak(h:Tr Bk)(b j:Nat)(k:Bk)(e:j≠b):hset h b k j=h j:=by grind[hset,Tr.vI]
def ld(h:Tr Bk)(b o n:Nat)(g:Bool):Option V:=match h b with|some k=>bif k.rd then yZ k.cells o n g else none|none=>none
def sto(h:Tr Bk)(b o:Nat)(vs:List B):Option (Tr Bk):=match h b with
 |some k=>(match bif k.pl then wI k.cells o vs else none with|some l=>some (hset h b ⟨l,k.opn⟩)|none=>none)
 |none=>none
def ai1(n:Nat)(g:Bool)(x:O)(tm:Tr V)(J:St):adJ n g x tm J=match x.ev tm with|.c (.ptr b o)=>ld J.h b o n g|_=>none:=rfl
theorem agf(n:Nat)(a x:O)(tm:Tr V)(J:St):vV (.store n a x) tm J=match a.ev tm,(x.ev tm).cells with
  |.c (.ptr b o),some vs=>bif Nat.beq vs.length n then(match sto J.h b o vs with|some h=>some (.und,⟨h,J.aj⟩)|none=>none)else none
  |_,_=>none:=by
 unfold vV sto
 dsimp only
 generalize O.ev tm a=va
 generalize (O.ev tm x).cells=vc
 cases vc with
 |none=>simp
 |some vs=>
  split
  .next b o vs' e=>
   cases e
   dsimp only
   cases Nat.beq vs.length n with
   |false=>rfl
   |true=>
    simp only[ce]
    cases J.h b with
    |none=>rfl
    |some k=>
     dsimp only
     cases(bif k.pl then wI k.cells o vs else none)with
     |none=>rfl
     |some l=>rfl
  simp
theorem lY(J:St)(k:Bk):J.new k=some (J.aj,⟨hset J.h J.aj k,J.aj+1⟩):=by rfl
def anN(h:Tr Bk)(b:Nat)(k:Bk)(o n:Nat)(g:Bool):ld (hset h b k) b o n g=bif k.rd then yZ k.cells o n g else none:=by unfold ld;rw[ay]
def axC(h:Tr Bk)(b j:Nat)(k:Bk)(o n:Nat)(g:Bool)(e:j≠b):ld (hset h b k) j o n g=ld h j o n g:=by grind[ld,ak]
def ai2(h:Tr Bk)(b:Nat)(k:Bk)(o:Nat)(vs:List B):sto (hset h b k) b o vs=match bif k.pl then wI k.cells o vs else none with|some l=>some (hset (hset h b k) b ⟨l,k.opn⟩)|none=>none:=by unfold sto;rw[ay]
def asZ(h:Tr Bk)(b j:Nat)(k:Bk)(o:Nat)(vs:List B)(e:j≠b):sto (hset h b k) j o vs=match h j with|some k'=>(match bif k'.pl then wI k'.cells o vs else none with|some l=>some (hset (hset h b k) j ⟨l,k'.opn⟩)|none=>none)|none=>none:=by grind[sto,ak]
def aA2{α:Sort _}(a b:α):(bif true then a else b)=a:=rfl
def aA3{α:Sort _}(a b:α):(bif false then a else b)=b:=rfl
theorem CY{a b:Nat}(h:a<b):Nat.blt a b=true:=eL h
theorem nV{a b:Nat}(h:a<=b):Nat.ble a b=true:=eL h
theorem Y2(a:Nat):Nat.beq a a=true:=by simp
theorem UC{a b:Nat}(h:a≠b):Nat.beq a b=false:=by grind[Nat.eq_of_beq_eq_true]
theorem Ws{n:Nat}(h:n<=9223372036854775807):mkI .i64 (.ofNat n)=some (jN n):=by grind[mkI,aiu,IU,nV]
def add_ofNat(a b:Nat):(Int.ofNat a+Int.ofNat b)=Int.ofNat (a+b):=rfl
def aA(a b:Nat):decide (Int.ofNat a<Int.ofNat b)=decide (a<b):=by simp
def WF(J:St):Prop:=∀b,J.aj<=b->J.h b=none
structure Fr(J J':St):Prop where
 le:J.aj<=J'.aj
 wf:WF J'
 old:∀b,b<J.aj->J'.h b=J.h b
theorem Fr.refl{J:St}(h:WF J):Fr J J:=⟨jp,h,λ_ _=>rfl⟩
def Fr.trans{J J' PK:St}(h:Fr J J')(h':Fr J' PK):Fr J PK:=⟨ar h.le h'.le,h'.wf,λb hb=>(h'.old b (aE hb h.le)).trans (h.old b hb)⟩
def WF.lt{J:St}(h:WF J){b:Nat}{k:Bk}(hb:J.h b=some k):b<J.aj:=by refine Nat.lt_of_not_le λe=>?_;rw[h b e]at hb;cases hb
def WF.dh{J:St}(h:WF J){b o n:Nat}{g:Bool}{v:V}(hb:ld J.h b o n g=some v):b<J.aj:=by
 unfold ld at hb;split at hb
 .next k hk=>exact h.lt hk
 grind
theorem Fr.ld{J J':St}(h:WF J)(hf:Fr J J'){b o n:Nat}{g:Bool}{v:V}(hb:Xe.ld J.h b o n g=some v):Xe.ld J'.h b o n g=some v:=by have hlt:=h.dh hb;unfold Xe.ld at hb⊢;rw[hf.old b hlt];exact hb
def Fr.get{J J':St}(h:WF J)(hf:Fr J J'){b:Nat}{k:Bk}(hb:J.h b=some k):J'.h b=some k:=by rw[hf.old b (h.lt hb)];exact hb
def Fr.new{J J':St}(hf:Fr J J')(k:Bk):Fr J ⟨hset J'.h J'.aj k,J'.aj+1⟩:=
 ⟨Nat.le_succ_of_le hf.le,λb hb=>by
  have hb:J'.aj+1<=b:=hb;show hset J'.h J'.aj k b=none;rw[ak _ _ _ _ jb];exact hf.wf b jb,λb hb=>by
  show hset J'.h J'.aj k b=_;have:=hf.le;rw[ak _ _ _ _ jb];exact hf.old b hb⟩
def Fr.set{J J':St}(hf:Fr J J'){b:Nat}(hb:J.aj<=b)(hb2:b<J'.aj)(k:Bk):Fr J ⟨hset J'.h b k,J'.aj⟩:=
 ⟨hf.le,λj hj=>by
  have hj:J'.aj<=j:=hj;show hset J'.h b k j=none;rw[ak _ _ _ _ jb];exact hf.wf j hj,λj hj=>by
  show hset J'.h b k j=_;rw[ak _ _ _ _ jb];exact hf.old j hj⟩
def HL(h:Tr Bk)(e:Nat)(v:B)(n:Nat)(G:Nat->List B):Prop:=
 (n=0/\v=.aO)\/∃b o c,v=.sl b o n c/\∀i,i<n->ld h b (o+i*e) e true=some (.agg (G i))
def HC(h:Tr Bk)(v:B)(n:Nat)(G:Nat->B):Prop:=
 (n=0/\v=.aO)\/∃b o c,v=.sl b o n c/\∀i,i<n->ld h b (o+i*1) 1 false=some (.c (G i))
def lenV:V->Option V
 |.c (.sl _ _ n _)=>some (jN n)
 |.c .aO=>some (jN 0)
 |_=>none
def anO(b o n:Nat)(c:Cap):lenV (.c (.sl b o n c))=some (jN n):=rfl
def agh:lenV (.c .aO)=some (jN 0):=rfl
def HL.len{h:Tr Bk}{e:Nat}{v:B}{n:Nat}{G:Nat->List B}(hl:HL h e v n G):lenV (.c v)=some (jN n):=by rcases hl with⟨rfl,rfl⟩|⟨b,o,c,rfl,-⟩<;>rfl
def HC.len{h:Tr Bk}{v:B}{n:Nat}{G:Nat->B}(hl:HC h v n G):lenV (.c v)=some (jN n):=by rcases hl with⟨rfl,rfl⟩|⟨b,o,c,rfl,-⟩<;>rfl
def HL.pos{h:Tr Bk}{e:Nat}{v:B}{n:Nat}{G:Nat->List B}(hl:HL h e v n G)(hn:0<n):∃b o c,v=.sl b o n c/\∀i,i<n->ld h b (o+i*e) e true=some (.agg (G i)):=by
 rcases hl with⟨rfl,-⟩|h
 .omega
 .exact h
def HC.pos{h:Tr Bk}{v:B}{n:Nat}{G:Nat->B}(hl:HC h v n G)(hn:0<n):∃b o c,v=.sl b o n c/\∀i,i<n->ld h b (o+i*1) 1 false=some (.c (G i)):=by
 rcases hl with⟨rfl,-⟩|h
 .omega
 .exact h
theorem HL.fr{J J':St}(hW:WF J)(hf:Fr J J'){e:Nat}{v:B}{n:Nat}{G:Nat->List B}(hl:HL J.h e v n G):HL J'.h e v n G:=by
 rcases hl with h|⟨b,o,c,rfl,h⟩
 .exact .inl h
 .exact .inr ⟨b,o,c,rfl,λi hi=>hf.ld hW (h i hi)⟩
theorem HC.fr{J J':St}(hW:WF J)(hf:Fr J J'){v:B}{n:Nat}{G:Nat->B}(hl:HC J.h v n G):HC J'.h v n G:=by
 rcases hl with h|⟨b,o,c,rfl,h⟩
 .exact .inl h
 .exact .inr ⟨b,o,c,rfl,λi hi=>hf.ld hW (h i hi)⟩
section
variable (E:Env)
def agi(tm:Tr V)(J:St)(Q:Tr V->St->Prop):wpOps E [] tm J Q=Q tm J:=rfl
def wpOps_cons(o:AO)(r:List AO)(tm:Tr V)(J:St)(Q:Tr V->St->Prop):wpOps E (o::r) tm J Q=wpG E o tm J λv J'=>wpOps E r (Gh tm o.dst v) J' Q:=rfl
variable (tm:Tr V) (J:St) (K:V→St→Prop)
def Dw(o:Option V)(K:V->Prop):Prop:=match o with|some v=>K v|none=>False
def ai3(v:V)(K:V->Prop):Dw (some v) K=K v:=rfl
theorem fM{op:xu}(h:op.kind=.q)(h2:∀g l,op≠.call g l):wpOp E op tm J K=Dw (dw op tm J) λv=>K v J:=by unfold wpOp;grind[qI,Dw]
def as1(c a b:O):wpOp E (.pick c a b) tm J K=Dw (match c.ev tm with|.c (.bool t)=>some (bif t then a.ev tm else b.ev tm)|_=>none) λv=>K v J:=fM _ _ _ _ rfl λ_ _ h=>by cases h
def o_load(n:Nat)(g:Bool)(x:O):wpOp E (.load n g x) tm J K=Dw (match x.ev tm with|.c (.ptr b o)=>ld J.h b o n g|_=>none) λv=>K v J:=fM _ _ _ _ rfl λ_ _ h=>by cases h
def anP(off:Nat)(x:O):wpOp E (.DV off x) tm J K=Dw (match x.ev tm with|.c (.ptr b o)=>some (.c (.ptr b (o+off)))|_=>none) λv=>K v J:=by rw[fM _ _ _ _ (by rfl) λ_ _ h=>by cases h];grind[dw,abt,qH]
def anQ(off n:Nat)(g:Bool)(x:O):wpOp E (.field off n g x) tm J K=Dw (match x.ev tm with|.agg l=>yZ l off n g|_=>none) λv=>K v J:=fM _ _ _ _ rfl λ_ _ h=>by cases h
def iaV(e:Nat)(v:V)(i:V):Option V:=match v,DX i with|.c (.sl b o n _),some j=>(bif Nat.blt j n then some (.c (.ptr b (o+j*e)))else none)|_,_=>none
def anR(e:Nat)(x i:O):wpOp E (.Gu e x i) tm J K=Dw (iaV e (x.ev tm) (i.ev tm)) λv=>K v J:=by rw[fM _ _ _ _ (by rfl) λ_ _ h=>by cases h];unfold dw abu iaV;grind[qH]
def as2(e b o n j:Nat)(c:Cap)(h:j<n):iaV e (.c (.sl b o n c)) (jN j)=some (.c (.ptr b (o+j*e))):=by simp_all[iaV,DX,CY]
def axD(i:Nat)(x:O):wpOp E (.ext i x) tm J K=Dw (aiw i x tm) λv=>K v J:=fM _ _ _ _ rfl λ_ _ h=>by cases h
def ai4:Nat->V->Option V
 |0,.aV a _=>some a
 |1,.aV _ (.aV a _)=>some a
 |2,.aV _ (.aV _ (.aV a _))=>some a
 |_,_=>none
def as3(i:Nat)(x:O)(tm:Tr V):aiw i x tm=ai4 i (x.ev tm):=by unfold aiw ai4;grind
def as4(a r:V):ai4 0 (.aV a r)=some a:=rfl
def as5(a b r:V):ai4 1 (.aV a (.aV b r))=some b:=rfl
def as6(a b c r:V):ai4 2 (.aV a (.aV b (.aV c r)))=some c:=rfl
def axE(b:BinOp)(x y:O):wpOp E (.bin b x y) tm J K=Dw (iT b (x.ev tm) (y.ev tm)) λv=>K v J:=fM _ _ _ _ rfl λ_ _ h=>by cases h
def axF(a b:Int):iT .lss (.c (.int .i64 a)) (.c (.int .i64 b))=some (.c (.bool (decide (a<b)))):=rfl
def axG(a b:Int):iT .gtr (.c (.int .i64 a)) (.c (.int .i64 b))=some (.c (.bool (decide (b<a)))):=rfl
def axH(a b:Int):iT .leq (.c (.int .i64 a)) (.c (.int .i64 b))=some (.c (.bool (decide (a<=b)))):=rfl
def axI(a b:Int):iT .geq (.c (.int .i64 a)) (.c (.int .i64 b))=some (.c (.bool (decide (b<=a)))):=rfl
def axJ(a b:Int):iT .eql (.c (.int .i64 a)) (.c (.int .i64 b))=some (.c (.bool (decide (a=b)))):=rfl
def axK(a b:Int):iT .neq (.c (.int .i64 a)) (.c (.int .i64 b))=some (.c (.bool (!decide (a=b)))):=rfl
def as7(a b:ByteArray):iT .eql (.c (.str a)) (.c (.str b))=some (.c (.bool (decide (a=b)))):=rfl
def as8(a b:ByteArray):iT .neq (.c (.str a)) (.c (.str b))=some (.c (.bool (!decide (a=b)))):=rfl
def axL(a b:Nat)(h:a+b<=9223372036854775807):iT .add (jN a) (jN b)=some (jN (a+b)):=by show mkI .i64 (Int.ofNat a+Int.ofNat b)=_;rw[add_ofNat,Ws h]
def ai5(a b:Nat)(h:a<=9223372036854775807)(h2:b<=a):iT .sub (jN a) (jN b)=some (jN (a-b)):=by show mkI .i64 (Int.ofNat a-Int.ofNat b)=_;grind[Ws]
def axM(p:Bool)(x y:O):wpOp E (.eqb p x y) tm J K=Dw (match x.ev tm,y.ev tm with|.c (.bool a),.c (.bool b)=>some (.c (.bool (p==(a==b))))|_,_=>none) λv=>K v J:=fM _ _ _ _ rfl λ_ _ h=>by cases h
def anS(p:Bool)(x y:O):wpOp E (.Gv p x y) tm J K=Dw (match x.ev tm,y.ev tm with|.agg l,.agg r=>(match eqB l r with|some b=>some (.c (.bool (p==b)))|none=>none)|_,_=>none) λv=>K v J:=fM _ _ _ _ rfl λ_ _ h=>by cases h
def as9(a b c d:Int):eqL [.int .i64 a,.int .i64 b] [.int .i64 c,.int .i64 d]=some (decide (a=c)&&decide (b=d)):=rfl
def anT(p q:Rat):eqB (rK p) (rK q)=some (decide (p=q)):=by grind[eqB,eqS,decide,abe]
def axN(k:Nat)(p:Bool)(v:V):Option V:=match k,v with
 |0,.c (.sl ..)=>some (.c (.bool (!p)))
 |0,.c .aO=>some (.c (.bool p))
 |1,.c (.ptr ..)=>some (.c (.bool (!p)))
 |1,.c .VU=>some (.c (.bool p))
 |2,.fn ..=>some (.c (.bool (!p)))
 |2,.Pg=>some (.c (.bool p))
 |_,_=>none
def axO(k:Nat)(p:Bool)(x:O):wpOp E (.nil k p x) tm J K=Dw (axN k p (x.ev tm)) λv=>K v J:=fM _ _ _ _ rfl λ_ _ h=>by cases h
def axP(x:O):wpOp E (.not x) tm J K=Dw (match x.ev tm with|.c (.bool b)=>some (.c (.bool !b))|_=>none) λv=>K v J:=fM _ _ _ _ rfl λ_ _ h=>by cases h
def anU(z:List B)(ps:List (Nat×Nat×O)):wpOp E (.build z ps) tm J K=Dw (match DW z (ps.map λp=>(p.1,p.2.1,p.2.2.ev tm))with|some l=>some (.agg l)|none=>none) λv=>K v J:=fM _ _ _ _ rfl λ_ _ h=>by cases h
def ata(f:Nat)(cs:List O):wpOp E (.Tn f cs) tm J K=Dw (match abr tm cs with|some l=>some (.fn f l)|none=>none) λv=>K v J:=fM _ _ _ _ rfl λ_ _ h=>by cases h
def axQ(x:O):wpOp E (.len x) tm J K=Dw (lenV (x.ev tm)) λv=>K v J:=fM _ _ _ _ rfl λ_ _ h=>by cases h
def atb(x:O):wpOp E (.Tq x) tm J K=Dw (match x.ev tm with|.c (.ptr b o)=>some (.c (.ptr b o))|.fn f l=>some (.fn f l)|_=>none) λv=>K v J:=fM _ _ _ _ rfl λ_ _ h=>by cases h
def anV(z:List B):wpOp E (.alloc z) tm J K=K (.c (.ptr J.aj 0)) ⟨hset J.h J.aj ⟨z,none⟩,J.aj+1⟩:=by rfl
def axR(x:O):wpOp E (.box x) tm J K=match(x.ev tm).cells with|some l=>K (.c (.ptr J.aj 0)) ⟨hset J.h J.aj ⟨l,none⟩,J.aj+1⟩|none=>False:=by grind[wpOp,qI,xu.kind,oP,lY]
def atc(bytes:Nat)(z:List B)(l c:O):wpOp E (.Nh bytes z l c) tm J K=match DX (l.ev tm),DX (c.ev tm)with
  |some n,some m=>(bif Nat.ble n m&&(Nat.ble (bytes*m) 281474976710656&&Nat.ble m 1073741824)then K (.c (.sl J.aj 0 n (.ex m))) ⟨hset J.h J.aj ⟨rep z m,none⟩,J.aj+1⟩else False)
  |_,_=>False:=by
 grind[wpOp,qI,xu.kind,oP,lY]
def axS(e n:Nat)(z:List B)(ps:List (Nat×Nat×O))(h:n*e<=16777216)(h':n<=16777216):wpOp E (.bsl e n z ps) tm J K=match DW (rep z n) (ps.map λp=>(p.1,p.2.1,p.2.2.ev tm))with
  |some l=>K (.c (.sl J.aj 0 n (.ex n))) ⟨hset J.h J.aj ⟨l,none⟩,J.aj+1⟩|none=>False:=by
 grind[wpOp,qI,xu.kind,oP,lY,nV]
def anW(n:Nat)(a x:O):wpOp E (.store n a x) tm J K=match a.ev tm,(x.ev tm).cells with
  |.c (.ptr b o),some vs=>(bif Nat.beq vs.length n then(match sto J.h b o vs with|some h=>K .und ⟨h,J.aj⟩|none=>False)else False)
  |_,_=>False:=by
 grind[wpOp,qI,xu.kind,agf]
def atd(g:O)(args:List O):wpOp E (.call g args) tm J K=match g.ev tm with|.fn f caps=>aC E f (args.map (·.ev tm)++caps.map .c) J K|_=>False:=rfl
end
end Go.Proofs.Xe
end
