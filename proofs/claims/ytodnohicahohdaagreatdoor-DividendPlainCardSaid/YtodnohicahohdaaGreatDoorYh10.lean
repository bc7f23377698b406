import Derived.Test.YtodnohicahohdaaGreatDoorYh9
set_option linter.all false
set_option maxRecDepth 100000
noncomputable section
namespace Go.Proofs.Xe
open Go.RowKit Go.Proofs.Ins
def szK:Nat:=60000000
def Sz(q:Rat):Prop:=Sm szK q
def Gh(a:Nat):Prop:=(bn a).size<=60000000
abbrev rK(x:Rat):List B:=[.bool (rn x),.str (rs x),.str (rd x)]
def rV(q:Rat):V:=.agg (rK q)
def rbV(q:Rat)(b:Bool):V:=.aU (rV q) (.aU (.c (.bool b)) .tnil)
def iV(i:Int):V:=.c (.int .i64 i)
def Sz.sizes{p:Rat}(h:Sz p):(rs p).size<=60000000/\(rd p).size<=60000000:=⟨Sm.rs h,Sm.rd h⟩
def abt{a b:Nat}(h:bn a=bn b):a=b:=by rw[<-dS a,<-dS b,h]
abbrev ki(n:Nat):O:=.k (jN n)
abbrev kf(n:Nat):O:=.k (.fn n [])
abbrev kb(b:Bool):O:=.k (.c (.bool b))
abbrev d(n:Nat):Option Nat:=some n
abbrev s0:B:=.str ⟨#[]⟩
abbrev i0:B:=.int .i64 (.ofNat 0)
def Qc(c:Bool)(R:Rat->Rat->V):List V->Option V
 |[.agg [.bool n,.str s,.str d],.agg [.bool m,.str t,.str e]]=>if(s.size+d.size<=130000000/\t.size+e.size<=130000000)/\(c=true->MC n s d/\MC m t e)then some (R (rq n s d) (rq m t e))else none
 |_=>none
def Y8(c:Bool)(R:Rat->V):List V->Option V
 |[.agg [.bool n,.str s,.str d]]=>if s.size+d.size<=130000000/\(c=true->MC n s d)then some (R (rq n s d))else none
 |_=>none
def kC0(R:V):List V->Option V
 |[]=>some R
 |_=>none
def kVd:List V->Option V
 |[.agg [.bool n,.str s,.str d]]=>if s.size+d.size<=130000000 then some (.c (.bool (decide (MC n s d))))else none
 |_=>none
def kN1(R:Nat->V):List V->Option V
 |[.c (.str s)]=>if s.size<=1073741824 then some (R (nv s))else none
 |_=>none
def Yk(R:Nat->Nat->Option V):List V->Option V
 |[.c (.str s),.c (.str t)]=>if s.size<=500000000/\t.size<=500000000 then R (nv s) (nv t)else none
 |_=>none
def kG2(R:Nat->Nat->V):List V->Option V
 |[.c (.str s),.c (.str t)]=>if s.size<=500000000/\t.size<=500000000 then some (R (nv s) (nv t))else none
 |_=>none
def kU1(R:Rat->V):List V->Option V
 |[.agg [.bool n,.str s,.str d]]=>if MC n s d then some (R (rq n s d))else none
 |_=>none
def kD2(R:Rat->Rat->V):List V->Option V
 |[.agg [.bool n,.str s,.str d],.agg [.bool m,.str t,.str e]]=>if(s.size+d.size<=130000000/\t.size+e.size<=130000000)/\(MC n s d/\MC m t e)/\t≠⟨#[]⟩then some (R (rq n s d) (rq m t e))else none
 |_=>none
def kU3(R:Nat->Nat->Nat->V):List V->Option V
 |[.c (.int .u32 (.ofNat x)),.c (.int .u32 (.ofNat y)),.c (.int .u32 (.ofNat b))]=>if x<4294967296/\y<4294967296/\b<=1 then some (R x y b)else none
 |_=>none
def kB3(R:Bool->Nat->Nat->Option V):List V->Option V
 |[.c (.bool n),.c (.str s),.c (.str t)]=>if s.size<=500000000/\t.size<=500000000 then R n (nv s) (nv t)else none
 |_=>none
def kI(k:IntKind)(l h:Int)(R:Int->V):List V->Option V
 |[.c (.int j i)]=>if j=k/\l<=i/\i<=h then some (R i)else none
 |_=>none
def kQ(R:Int->Int->V):List V->Option V
 |[.c (.int j i),.c (.int k m)]=>if(j=.i64/\0<=i/\i<23)/\k=.i64/\0<m/\(m<7\/m=8)then some (R i m)else none
 |_=>none
def Ez(c:Bool)(R:Rat->Rat->V){p q:Rat}(hp:Sz p)(hq:Sz q):Qc c R [rV p,rV q]=some (R p q):=by unfold Qc rV rK;have:=hp.sizes;have:=hq.sizes;simp only;rw[ab ⟨jb,λ_=>⟨Ed p,Ed q⟩⟩,Hq,Hq]
def ace(c:Bool)(R:Rat->V){p:Rat}(hp:Sz p):Y8 c R [rV p]=some (R p):=by unfold Y8 rV rK;have:=hp.sizes;simp only;rw[ab ⟨jb,λ_=>Ed p⟩,Hq]
def atO{p:Rat}(hp:Sz p):kVd [rV p]=some (.c (.bool true)):=by unfold kVd rV rK;have:=hp.sizes;simp only;rw[ab jb,aw (Ed p)]
def Qd(R:Nat->Nat->Option V){a b:Nat}{v:V}(ha:Gh a)(hb:Gh b)(h:R a b=some v):Yk R [.c (.str (bn a)),.c (.str (bn b))]=some v:=by unfold Yk Gh at*;simp only;rw[ab jb,dS,dS,h]
def atP(R:Bool->Nat->Nat->Option V){n:Bool}{a b:Nat}{v:V}(ha:Gh a)(hb:Gh b)(h:R n a b=some v):kB3 R [.c (.bool n),.c (.str (bn a)),.c (.str (bn b))]=some v:=by unfold kB3 Gh at*;simp only;rw[ab jb,dS,dS,h]
noncomputable section
def jg(f:Nat):List V->Option V:=
 bif Nat.beq f 340 then(kU3 λx y b=>.aU (.c (.int .u32 (.ofNat ((x+8589934592-(y+b))%4294967296)))) (.aU (.c (.int .u32 (.ofNat (if x<y+b then 1 else 0)))) .tnil))else
 bif Nat.beq f 324 then(kI .u32 1 4294967295 λi=>jN (lz i.toNat))else
 bif Nat.beq f 251 then(kN1 λa=>.c (.str (bn a)))else
 bif Nat.beq f 176 then(Yk λa b=>some (iV (wM a b)))else
 bif Nat.beq f 267 then(Yk λa b=>some (.c (.str (bn (a+b)))))else
 bif Nat.beq f 177 then(Yk λa b=>some (.c (.str (bn (a*b)))))else
 bif Nat.beq f 252 then(Yk λa b=>some (.c (.str (bn (Nat.gcd a b)))))else
 bif Nat.beq f 268 then(Yk λa b=>some (if b<=a then .aU (.c (.str (bn (a-b)))) (.aU (.c (.bool true)) .tnil)else .aU (.c (.str ⟨#[]⟩)) (.aU (.c (.bool false)) .tnil)))else
 bif Nat.beq f 253 then(Yk λa b=>if 0<b then some (.aU (.c (.str (bn (a/b)))) (.aU (.c (.str (bn (a%b)))) (.aU (.c (.bool true)) .tnil)))else none)else
 bif Nat.beq f 254 then(kI .u64 0 18446744073709551615 λi=>.c (.str (bn i.toNat)))else
 bif Nat.beq f 60 then(kI .i64 0 100 λi=>rV i)else
 bif Nat.beq f 74 then(kQ λi j=>rV ((i:Rat)/(j:Rat)))else
 bif Nat.beq f 33 then(kI .u16 0 65535 λi=>rV (amt i.toNat))else
 bif Nat.beq f 178 then(Y8 true λp=>.c (.str (bn p.den)))else
 bif Nat.beq f 242 then kVd else
 bif Nat.beq f 145 then(Y8 false λp=>rV p)else
 bif Nat.beq f 160 then(kB3 λn a b=>if 0<b then some (rV (fr n a b))else none)else
 bif Nat.beq f 278 then(kB3 λn a b=>some (if b=0 then rbV 0 false else rbV (fr n a b) true))else
 bif Nat.beq f 161 then(kI .i64 (-9223372036854775808) 9223372036854775807 λi=>.c (.str (bn i.natAbs)))else
 bif Nat.beq f 72 then(kI .i64 (-9223372036854775808) 9223372036854775807 λi=>rV i)else
 bif Nat.beq f 175 then(Y8 true λp=>iV (sg p))else
 bif Nat.beq f 133 then(Y8 false λp=>iV (sg p))else
 bif Nat.beq f 180 then(Y8 true λp=>rV (-p))else
 bif Nat.beq f 179 then(Qc true λp q=>rV (p+q))else
 bif Nat.beq f 99 then(Qc false λp q=>rV (p+q))else
 bif Nat.beq f 86 then(Qc false λp q=>rV (p-q))else
 bif Nat.beq f 199 then(Qc false λp q=>rV (p*q))else
 bif Nat.beq f 197 then(Qc false λp q=>rbV (G7 p q) (okR q))else
 bif Nat.beq f 83 then(Qc false λp q=>iV (nC p q))else
 bif Nat.beq f 59 then(Qc false λp q=>rV (Jq p q))else
 bif Nat.beq f 85 then(Qc false λp q=>rV (wR p q))else
 λ_=>none
end
class jX (E:Env) (f:Nat):Prop where
 o:∀args v J,jg f args=some v->E.Nw f args J=some (v,J)
def ajv{E:Env}{f:Nat}{args:List V}{v:V}{J σ2:St}{K:V->St->Prop}(h:E.Nw f args J=some (v,σ2)):aB E f args J K=K v σ2:=by
 refine propext ⟨λ⟨n,v',J',h1,h2⟩=>?_,λhk=>Y6 h hk⟩;have h3:iD E 1 f args J=some (v,σ2):=by rw[iD];unfold Hz;rw[h]
 have a:=oQ (show n<=n+1 by omega) f args J _ h1;have b:=oQ (show 1<=n+1 by omega) f args J _ h3;rw[a]at b;cases b;exact h2
def aW{E:Env}{f:Nat}[hE:jX E f]{args:List V}{v:V}{J:St}{K:V->St->Prop}(h:jg f args=some v):aB E f args J K=K v J:=ajv (hE.o args v J h)
def Qe(P:Program)(f:Nat):Bool:=match P.funcs[f]? with|some fn=> !fn.body.isNone&& !(fn.name== "runtime.NumGoroutine")|none=>false
def xu{P:Program}{f:Nat}(h:Qe P f=true):okF P f:=by
 unfold Qe at h;split at h
 .next fn hfn=>
  simp only[af,eC]at h;exact⟨fn,hfn,h.1,h.2⟩
 .cases h
def Ct(P:Program)(f:Nat)(v:V)(aV:Array Value)(w:World):Prop:=
 Calls P f aV w λe w'=>∃cv,e=.returned cv/\Below w.heap.size w w'/\∀φ',RV φ' v cv
class oU (f:Nat):Prop where
 k:okF Tryz.prog f
 c:∀args v,jg f args=some v->∀(φ:Ph) (aV:Array Value) (w:World),BA φ args aV.toList->Ct Tryz.prog f v aV w
class OkL (l:List Nat):Prop where
 o:∀f,l.contains f=true->oU f
class Mm (f:Nat) (l:List Nat):Prop where
 h:l.contains f=true
instance:OkL []:=⟨nofun⟩
instance {f:Nat}{l:List Nat} [h:oU f] [hl:OkL l]:OkL (f::l):=⟨λg hg=>by
 rw[List.contains_cons,Bool.or_eq_true]at hg;rcases hg with hg|hg
 .rw[eq_of_beq hg];exact h
 .exact hl.o g hg⟩
instance {f:Nat}{l:List Nat}:Mm f (f::l):=⟨by simp⟩
instance {f g:Nat}{l:List Nat} [h:Mm f l]:Mm f (g::l):=⟨by simpa using .inr (by simpa using h.h)⟩
def Eb(l:List Nat):Env:=⟨tF Tryz.prog,λf args J=>bif l.contains f then(match jg f args with|some v=>some (v,J)|none=>none)else none⟩
instance {f:Nat}{l:List Nat} [h:Mm f l]:jX (Eb l) f:=⟨λargs v J hv=>by unfold Eb;dsimp only;rw[h.h,hv];rfl⟩
def oU.Nw{f:Nat}(h:oU f){args:List V}{J J':St}{v:V}(ho:(match jg f args with|some v=>some (v,J)|none=>none)=some (v,J')):okF Tryz.prog f/\∀(N:Nat) (w0:World) (φ:Ph) (w:World) (aV:Array Value),Rel N w0 φ J w->BA φ args aV.toList->
  Calls Tryz.prog f aV w λe w'=>∃cv,e=.returned cv/\∃φ',Ext J.aj φ φ'/\Rel N w0 φ' J' w'/\RV φ' v cv/\J.aj<=J'.aj:=by
 split at ho
 .next u hu=>
  cases ho
  refine⟨h.k,λN w0 φ w aV hR ha=>(h.c _ _ hu φ aV w ha).mono λe w' he=>?_⟩
  obtain⟨cv,rfl,hb,hv⟩:=he
  exact⟨cv,rfl,φ,Ext.refl _ _,hR.below hb,hv φ,jp⟩
 .cases ho
def MQ{l:List Nat}[h:OkL l]:MP Tryz.prog (Eb l):=by
 refine⟨λf F h=>aef h,λf args J v J' ho=>?_⟩;unfold Eb at ho;dsimp only at ho;cases hc:l.contains f with
 |false=>rw[hc]at ho;cases ho
 |true=>rw[hc]at ho;exact(h.o f hc).Nw ho
def fB:B->Bool
 |.int ..|.bool _|.str _=>true
 |_=>false
def fV:V->Bool
 |.c x=>fB x
 |.agg l=>l.all fB
 |.aU a r=>fV a&&fV r
 |.tnil=>true
 |_=>false
section
variable {φ φ' : Ph}
def RB.flat{x:B}{v:Value}(h:fB x=true)(hv:RB φ x v):RB φ' x v:=by cases x<;>first|exact hv|cases h
def lX.flat:∀{l:List B}{r:List Value},l.all fB=true->lX φ l r->lX φ' l r
 |[],[],_,_=>trivial
 |_::_,_::_,h,hv=>by rw[cw,af]at h;exact⟨hv.1.flat h.1,lX.flat h.2 hv.2⟩
 |[],_::_,_,hv=>hv.elim
 |_::_,[],_,hv=>hv.elim
def RV.flat:∀{x:V}{v:Value},fV x=true->RV φ x v->RV φ' x v
 |.c _,_,h,hv=>RB.flat h hv
 |.agg _,_,h,⟨r,e,hr⟩=>⟨r,e,hr.flat h⟩
 |.aU _ _,_,h,⟨x,xs,e,h1,h2⟩=>by unfold fV at h;rw[af]at h;exact⟨x,xs,e,h1.flat h.1,h2.flat h.2⟩
 |.tnil,_,_,hv=>hv
def BA.flat:∀{l:List V}{r:List Value},l.all fV=true->BA φ l r->BA φ' l r
 |[],[],_,_=>trivial
 |_::_,_::_,h,hv=>by rw[cw,af]at h;exact⟨hv.1.flat h.1,BA.flat h.2 hv.2⟩
 |[],_::_,_,hv=>hv.elim
 |_::_,[],_,hv=>hv.elim
end
def aBF(w:World):Rel w.heap.size w (λ_=>none) ⟨.leaf,0⟩ w:=
 ⟨jp,Below.refl _ _,nofun,nofun,nofun,nofun,λb _=>⟨rfl,Tr.Eh b⟩⟩
def CU{E:Env}(hE:MP Tryz.prog E){f:Nat}{args:List V}{v:V}(ha:args.all fV=true)(hv:fV v=true)(h:aB E f args ⟨.leaf,0⟩ λr _=>r=v)(φ:Ph)(aV:Array Value)(w:World)(hr:BA φ args aV.toList):Ct Tryz.prog f v aV w:=by obtain⟨n,r,J',h1,rfl⟩:=h;refine(KT hE (by kernel_rfl) h1 (aBF w) (hr.flat ha)).mono λe w' he=>?_;obtain⟨cv,rfl,φ',-,hR,hc,-⟩:=he;exact⟨cv,rfl,hR.bel,λφ=>hc.flat hv⟩
structure Ac(k:Nat) where
 a:AF
 g:tG Tryz.prog k=some a:=by conv=>(lhs;reduce;simp only[asz,aym])
 i:Wq Tryz.prog k a=true:=by kernel_rfl
def iF{f:Nat}{l:List Nat}(b:Ac f)(hl:l.contains f=false){args:List V}{J:St}{K:V->St->Prop}(h:bI (Eb l) b.a.body (ini args) J (ab9 b.a.res K)):aB (Eb l) f args J K:=
 aI (by unfold Eb;dsimp only;rw[hl];rfl) (asy b.g b.i) h
section
variable {E:Env} {J:St} {K:V→St→Prop}
def Ad:jg 340=kU3 (λx y b=>.aU (.c (.int .u32 (.ofNat ((x+8589934592-(y+b))%4294967296)))) (.aU (.c (.int .u32 (.ofNat (if x<y+b then 1 else 0)))) .tnil)):=rfl
def oV:jg 324=kI .u32 1 4294967295 (λi=>jN (lz i.toNat)):=rfl
def qA:jg 251=kN1 (λa=>.c (.str (bn a))):=rfl
def Ae:jg 176=Yk (λa b=>some (iV (wM a b))):=rfl
def wu:jg 267=Yk (λa b=>some (.c (.str (bn (a+b))))):=rfl
def atQ[jX E 267](a b:Nat)(h1:Gh a)(h2:Gh b):aB E 267 [.c (.str (bn a)),.c (.str (bn b))] J K=K (.c (.str (bn (a+b)))) J:=aW ((bp wu _).trans (Qd _ h1 h2 (by first|rfl|simp)))
def nG:jg 177=Yk (λa b=>some (.c (.str (bn (a*b))))):=rfl
def Y9[jX E 177](a b:Nat)(h1:Gh a)(h2:Gh b):aB E 177 [.c (.str (bn a)),.c (.str (bn b))] J K=K (.c (.str (bn (a*b)))) J:=aW ((bp nG _).trans (Qd _ h1 h2 (by first|rfl|simp)))
def wz:jg 252=Yk (λa b=>some (.c (.str (bn (Nat.gcd a b))))):=rfl
def atS[jX E 252](a b:Nat)(h1:Gh a)(h2:Gh b):aB E 252 [.c (.str (bn a)),.c (.str (bn b))] J K=K (.c (.str (bn (Nat.gcd a b)))) J:=aW ((bp wz _).trans (Qd _ h1 h2 (by first|rfl|simp)))
def nH:jg 268=Yk (λa b=>some (if b<=a then .aU (.c (.str (bn (a-b)))) (.aU (.c (.bool true)) .tnil)else .aU (.c (.str ⟨#[]⟩)) (.aU (.c (.bool false)) .tnil))):=rfl
def Za[jX E 268](a b:Nat)(h1:Gh a)(h2:Gh b):aB E 268 [.c (.str (bn a)),.c (.str (bn b))] J K=K (if b<=a then .aU (.c (.str (bn (a-b)))) (.aU (.c (.bool true)) .tnil)else .aU (.c (.str ⟨#[]⟩)) (.aU (.c (.bool false)) .tnil)) J:=aW ((bp nH _).trans (Qd _ h1 h2 (by first|rfl|simp)))
def pU:jg 253=Yk (λa b=>if 0<b then some (.aU (.c (.str (bn (a/b)))) (.aU (.c (.str (bn (a%b)))) (.aU (.c (.bool true)) .tnil)))else none):=rfl
def agz[jX E 253](a b:Nat)(h1:Gh a)(h2:Gh b)(h0:0<b):aB E 253 [.c (.str (bn a)),.c (.str (bn b))] J K=K (.aU (.c (.str (bn (a/b)))) (.aU (.c (.str (bn (a%b)))) (.aU (.c (.bool true)) .tnil))) J:=aW ((bp pU _).trans (Qd _ h1 h2 (ab h0)))
def nI:jg 254=kI .u64 0 18446744073709551615 (λi=>.c (.str (bn i.toNat))):=rfl
def Zb[jX E 254](x:Nat)(h1:x<18446744073709551616):aB E 254 [.c (.int .u64 (.ofNat x))] J K=K (.c (.str (bn x))) J:=aW ((bp nI _).trans (ab ⟨rfl,by simp,by simp only[bX];omega⟩))
def CV:jg 60=kI .i64 0 100 (λi=>rV i):=rfl
def ajw[jX E 60](x:Nat)(h1:x<=100):aB E 60 [jN x] J K=K (.agg (rK ((Int.ofNat x:Int):Rat))) J:=aW ((bp CV _).trans (ab ⟨rfl,by simp,by simp only[bX];omega⟩))
def Wy:jg 74=kQ (λi j=>rV ((i:Rat)/(j:Rat))):=rfl
def H7:jg 33=kI .u16 0 65535 (λi=>rV (amt i.toNat)):=rfl
def agA[jX E 33](x:Nat)(h1:x<=65535):aB E 33 [.c (.int .u16 (.ofNat x))] J K=K (.agg (rK (amt x))) J:=aW ((bp H7 _).trans (ab ⟨rfl,by simp,by simp only[bX];omega⟩))
def fO:jg 178=Y8 true (λp=>.c (.str (bn p.den))):=rfl
def pV:jg 242=kVd:=rfl
def aeh[jX E 242](p:Rat)(hp:Sz p):aB E 242 [.agg (rK p)] J K=K (.c (.bool true)) J:=aW ((bp pV _).trans (atO hp))
def lY:jg 145=Y8 false (λp=>rV p):=rfl
def aoB[jX E 145](p:Rat)(hp:Sz p):aB E 145 [.agg (rK p)] J K=K (.agg (rK p)) J:=aW ((bp lY _).trans (ace _ _ hp))
def Zc[jX E 145](n:Bool)(s d:ByteArray)(h1:s.size+d.size<=130000000):aB E 145 [.agg [.bool n,.str s,.str d]] J K=K (.agg (rK (rq n s d))) J:=aW ((bp lY _).trans (ab ⟨h1,nofun⟩))
def yN:jg 160=kB3 (λn a b=>if 0<b then some (rV (fr n a b))else none):=rfl
def ru:jg 278=kB3 (λn a b=>some (if b=0 then rbV 0 false else rbV (fr n a b) true)):=rfl
def atT[jX E 278](n:Bool)(a b:Nat)(h1:Gh a)(h2:Gh b)(h0:0<b):aB E 278 [.c (.bool n),.c (.str (bn a)),.c (.str (bn b))] J K=K (.aU (.agg (rK (fr n a b))) (.aU (.c (.bool true)) .tnil)) J:=aW ((bp ru _).trans (atP _ h1 h2 (by rw[ae jb];rfl)))
def wS:jg 161=kI .i64 (-9223372036854775808) 9223372036854775807 (λi=>.c (.str (bn i.natAbs))):=rfl
def yO:jg 72=kI .i64 (-9223372036854775808) 9223372036854775807 (λi=>rV i):=rfl
def ayn[jX E 72](i:Int)(h1: -9223372036854775808<=i)(h2:i<=9223372036854775807):aB E 72 [.c (.int .i64 i)] J K=K (.agg (rK i)) J:=aW ((bp yO _).trans (ab ⟨rfl,h1,h2⟩))
def kH:jg 175=Y8 true (λp=>iV (sg p)):=rfl
def rD:jg 133=Y8 false (λp=>iV (sg p)):=rfl
def atU[jX E 133](p:Rat)(hp:Sz p):aB E 133 [.agg (rK p)] J K=K (.c (.int .i64 (sg p))) J:=aW ((bp rD _).trans (ace _ _ hp))
def aoC[jX E 133](n:Bool)(s d:ByteArray)(h1:s.size+d.size<=130000000):aB E 133 [.agg [.bool n,.str s,.str d]] J K=K (.c (.int .i64 (sg (rq n s d)))) J:=aW ((bp rD _).trans (ab ⟨h1,nofun⟩))
def sV:jg 180=Y8 true (λp=>rV (-p)):=rfl
def ajx[jX E 180](p:Rat)(hp:Sz p):aB E 180 [.agg (rK p)] J K=K (.agg (rK (-p))) J:=aW ((bp sV _).trans (ace _ _ hp))
def oW:jg 179=Qc true (λp q=>rV (p+q)):=rfl
def ayo[jX E 179](p q:Rat)(hp:Sz p)(hq:Sz q):aB E 179 [.agg (rK p),.agg (rK q)] J K=K (.agg (rK (p+q))) J:=aW ((bp oW _).trans (Ez _ _ hp hq))
def sW:jg 99=Qc false (λp q=>rV (p+q)):=rfl
def ayp[jX E 99](p q:Rat)(hp:Sz p)(hq:Sz q):aB E 99 [.agg (rK p),.agg (rK q)] J K=K (.agg (rK (p+q))) J:=aW ((bp sW _).trans (Ez _ _ hp hq))
def atV[jX E 99](n m:Bool)(s d t e:ByteArray)(h1:s.size+d.size<=130000000)(h2:t.size+e.size<=130000000):aB E 99 [.agg [.bool n,.str s,.str d],.agg [.bool m,.str t,.str e]] J K=K (.agg (rK ((rq n s d)+(rq m t e)))) J:=aW ((bp sW _).trans (ab ⟨⟨h1,h2⟩,nofun⟩))
def qB:jg 86=Qc false (λp q=>rV (p-q)):=rfl
def acf[jX E 86](p q:Rat)(hp:Sz p)(hq:Sz q):aB E 86 [.agg (rK p),.agg (rK q)] J K=K (.agg (rK (p-q))) J:=aW ((bp qB _).trans (Ez _ _ hp hq))
def Zd[jX E 86](n m:Bool)(s d t e:ByteArray)(h1:s.size+d.size<=130000000)(h2:t.size+e.size<=130000000):aB E 86 [.agg [.bool n,.str s,.str d],.agg [.bool m,.str t,.str e]] J K=K (.agg (rK ((rq n s d)-(rq m t e)))) J:=aW ((bp qB _).trans (ab ⟨⟨h1,h2⟩,nofun⟩))
def qC:jg 199=Qc false (λp q=>rV (p*q)):=rfl
def acg[jX E 199](p q:Rat)(hp:Sz p)(hq:Sz q):aB E 199 [.agg (rK p),.agg (rK q)] J K=K (.agg (rK (p*q))) J:=aW ((bp qC _).trans (Ez _ _ hp hq))
def sZ:jg 197=Qc false (λp q=>rbV (G7 p q) (okR q)):=rfl
def ajy[jX E 197](p q:Rat)(hp:Sz p)(hq:Sz q):aB E 197 [.agg (rK p),.agg (rK q)] J K=K (.aU (.agg (rK (G7 p q))) (.aU (.c (.bool (okR q))) .tnil)) J:=aW ((bp sZ _).trans (Ez _ _ hp hq))
def jh:jg 83=Qc false (λp q=>iV (nC p q)):=rfl
def agB[jX E 83](p q:Rat)(hp:Sz p)(hq:Sz q):aB E 83 [.agg (rK p),.agg (rK q)] J K=K (.c (.int .i64 (nC p q))) J:=aW ((bp jh _).trans (Ez _ _ hp hq))
def ach[jX E 83](n m:Bool)(s d t e:ByteArray)(h1:s.size+d.size<=130000000)(h2:t.size+e.size<=130000000):aB E 83 [.agg [.bool n,.str s,.str d],.agg [.bool m,.str t,.str e]] J K=K (.c (.int .i64 (nC (rq n s d) (rq m t e)))) J:=aW ((bp jh _).trans (ab ⟨⟨h1,h2⟩,nofun⟩))
def tq:jg 59=Qc false (λp q=>rV (Jq p q)):=rfl
def ayq[jX E 59](p q:Rat)(hp:Sz p)(hq:Sz q):aB E 59 [.agg (rK p),.agg (rK q)] J K=K (.agg (rK (Jq p q))) J:=aW ((bp tq _).trans (Ez _ _ hp hq))
def atW[jX E 59](n m:Bool)(s d t e:ByteArray)(h1:s.size+d.size<=130000000)(h2:t.size+e.size<=130000000):aB E 59 [.agg [.bool n,.str s,.str d],.agg [.bool m,.str t,.str e]] J K=K (.agg (rK (Jq (rq n s d) (rq m t e)))) J:=aW ((bp tq _).trans (ab ⟨⟨h1,h2⟩,nofun⟩))
def tu:jg 85=Qc false (λp q=>rV (wR p q)):=rfl
def ayr[jX E 85](p q:Rat)(hp:Sz p)(hq:Sz q):aB E 85 [.agg (rK p),.agg (rK q)] J K=K (.agg (rK (wR p q))) J:=aW ((bp tu _).trans (Ez _ _ hp hq))
def atX[jX E 85](n m:Bool)(s d t e:ByteArray)(h1:s.size+d.size<=130000000)(h2:t.size+e.size<=130000000):aB E 85 [.agg [.bool n,.str s,.str d],.agg [.bool m,.str t,.str e]] J K=K (.agg (rK (wR (rq n s d) (rq m t e)))) J:=aW ((bp tu _).trans (ab ⟨⟨h1,h2⟩,nofun⟩))
end
end Go.Proofs.Xe
namespace Go.Proofs.Xe
open Go.RowKit Go.Proofs.Ins
def agC(tm:Tr V)(d:Nat)(v:V):r8 (G6 tm (some d) v) d=v:=by grind[r8,G6,Tr.wo]
def aoD(tm:Tr V)(d j:Nat)(v:V)(h:j≠d):r8 (G6 tm (some d) v) j=r8 tm j:=by grind[r8,G6,Tr.wo]
def agD(tm:Tr V)(v:V):G6 tm none v=tm:=rfl
def agE(a:V)(l:List V):r8 (ini (a::l)) 0=a:=by grind[r8,Gg]
def agF(a b:V)(l:List V):r8 (ini (a::b::l)) 1=b:=by grind[r8,Gg]
def agG(a b c:V)(l:List V):r8 (ini (a::b::c::l)) 2=c:=by grind[r8,Gg]
def agH(a b c d:V)(l:List V):r8 (ini (a::b::c::d::l)) 3=d:=by grind[r8,Gg]
def agI(a b c d e:V)(l:List V):r8 (ini (a::b::c::d::e::l)) 4=e:=by grind[r8,Gg]
def agJ(a b c d e f:V)(l:List V):r8 (ini (a::b::c::d::e::f::l)) 5=f:=by grind[r8,Gg]
def aBG(tm:Tr V)(i:Nat):O.ev tm (.t i)=r8 tm i:=rfl
def aBH(tm:Tr V)(v:V):O.ev tm (.k v)=v:=rfl
def z3(l:List B):(B.bool false::s0::s0::l)=(.bool (rn 0):: .str (rs 0):: .str (rd 0)::l):=rfl
def hset(h:Tr Bk)(b:Nat)(k:Bk):Tr Bk:=h.set b (some k)
theorem aA(h:Tr Bk)(b:Nat)(k:Bk):hset h b k b=some k:=by grind[hset,Tr.wo]
theorem au(h:Tr Bk)(b j:Nat)(k:Bk)(e:j≠b):hset h b k j=h j:=by grind[hset,Tr.wo]
def ld(h:Tr Bk)(b o n:Nat)(g:Bool):Option V:=match h b with|some k=>bif k.rd then zT k.cells o n g else none|none=>none
def sto(h:Tr Bk)(b o:Nat)(vs:List B):Option (Tr Bk):=match h b with
 |some k=>(match bif k.pl then yc k.cells o vs else none with|some l=>some (hset h b ⟨l,k.opn⟩)|none=>none)
 |none=>none
def ajz(n:Nat)(g:Bool)(x:O)(tm:Tr V)(J:St):ad6 n g x tm J=match x.ev tm with|.c (.ptr b o)=>ld J.h b o n g|_=>none:=rfl
theorem agK(n:Nat)(a x:O)(tm:Tr V)(J:St):wP (.store n a x) tm J=match a.ev tm,(x.ev tm).cells with
  |.c (.ptr b o),some vs=>bif Nat.beq vs.length n then(match sto J.h b o vs with|some h=>some (.und,⟨h,J.aj⟩)|none=>none)else none
  |_,_=>none:=by
 unfold wP sto
 dsimp only
 generalize O.ev tm a=va
 generalize (O.ev tm x).cells=vc
 cases vc with
 |none=>simp
 |some vs=>
  split
  .next b o vs' e=>
   cases e
   dsimp only
   cases Nat.beq vs.length n with
   |false=>rfl
   |true=>
    simp only[bB]
    cases J.h b with
    |none=>rfl
    |some k=>
     dsimp only
     cases(bif k.pl then yc k.cells o vs else none)with
     |none=>rfl
     |some l=>rfl
  simp
theorem lZ(J:St)(k:Bk):J.new k=some (J.aj,⟨hset J.h J.aj k,J.aj+1⟩):=by rfl
def aoE(h:Tr Bk)(b:Nat)(k:Bk)(o n:Nat)(g:Bool):ld (hset h b k) b o n g=bif k.rd then zT k.cells o n g else none:=by unfold ld;rw[aA]
def ays(h:Tr Bk)(b j:Nat)(k:Bk)(o n:Nat)(g:Bool)(e:j≠b):ld (hset h b k) j o n g=ld h j o n g:=by grind[ld,au]
def ajA(h:Tr Bk)(b:Nat)(k:Bk)(o:Nat)(vs:List B):sto (hset h b k) b o vs=match bif k.pl then yc k.cells o vs else none with|some l=>some (hset (hset h b k) b ⟨l,k.opn⟩)|none=>none:=by unfold sto;rw[aA]
def atY(h:Tr Bk)(b j:Nat)(k:Bk)(o:Nat)(vs:List B)(e:j≠b):sto (hset h b k) j o vs=match h j with|some k'=>(match bif k'.pl then yc k'.cells o vs else none with|some l=>some (hset (hset h b k) j ⟨l,k'.opn⟩)|none=>none)|none=>none:=by grind[sto,au]
def aBI{α:Sort _}(a b:α):(bif true then a else b)=a:=rfl
def aBJ{α:Sort _}(a b:α):(bif false then a else b)=b:=rfl
theorem DF{a b:Nat}(h:a<b):Nat.blt a b=true:=di h
theorem nV{a b:Nat}(h:a<=b):Nat.ble a b=true:=di h
theorem Ze(a:Nat):Nat.beq a a=true:=by simp
theorem Uu{a b:Nat}(h:a≠b):Nat.beq a b=false:=by grind[Nat.eq_of_beq_eq_true]
theorem WA{n:Nat}(h:n<=9223372036854775807):mkI .i64 (.ofNat n)=some (jN n):=by grind[mkI,ai0,Ih,nV]
def add_ofNat(a b:Nat):(Int.ofNat a+Int.ofNat b)=Int.ofNat (a+b):=rfl
def aC(a b:Nat):decide (Int.ofNat a<Int.ofNat b)=decide (a<b):=by simp
def WF(J:St):Prop:=∀b,J.aj<=b->J.h b=none
structure Fr(J J':St):Prop where
 le:J.aj<=J'.aj
 wf:WF J'
 old:∀b,b<J.aj->J'.h b=J.h b
theorem Fr.refl{J:St}(h:WF J):Fr J J:=⟨jp,h,λ_ _=>rfl⟩
def Fr.trans{J J' PV:St}(h:Fr J J')(h':Fr J' PV):Fr J PV:=⟨ar h.le h'.le,h'.wf,λb hb=>(h'.old b (aE hb h.le)).trans (h.old b hb)⟩
def WF.lt{J:St}(h:WF J){b:Nat}{k:Bk}(hb:J.h b=some k):b<J.aj:=by refine Nat.lt_of_not_le λe=>?_;rw[h b e]at hb;cases hb
def WF.cZ{J:St}(h:WF J){b o n:Nat}{g:Bool}{v:V}(hb:ld J.h b o n g=some v):b<J.aj:=by
 unfold ld at hb;split at hb
 .next k hk=>exact h.lt hk
 grind
theorem Fr.ld{J J':St}(h:WF J)(hf:Fr J J'){b o n:Nat}{g:Bool}{v:V}(hb:Xe.ld J.h b o n g=some v):Xe.ld J'.h b o n g=some v:=by have hlt:=h.cZ hb;unfold Xe.ld at hb⊢;rw[hf.old b hlt];exact hb
def Fr.get{J J':St}(h:WF J)(hf:Fr J J'){b:Nat}{k:Bk}(hb:J.h b=some k):J'.h b=some k:=by rw[hf.old b (h.lt hb)];exact hb
def Fr.new{J J':St}(hf:Fr J J')(k:Bk):Fr J ⟨hset J'.h J'.aj k,J'.aj+1⟩:=
 ⟨Nat.le_succ_of_le hf.le,λb hb=>by
  have hb:J'.aj+1<=b:=hb;show hset J'.h J'.aj k b=none;rw[au _ _ _ _ jb];exact hf.wf b jb,λb hb=>by
  show hset J'.h J'.aj k b=_;have:=hf.le;rw[au _ _ _ _ jb];exact hf.old b hb⟩
def Fr.set{J J':St}(hf:Fr J J'){b:Nat}(hb:J.aj<=b)(hb2:b<J'.aj)(k:Bk):Fr J ⟨hset J'.h b k,J'.aj⟩:=
 ⟨hf.le,λj hj=>by
  have hj:J'.aj<=j:=hj;show hset J'.h b k j=none;rw[au _ _ _ _ jb];exact hf.wf j hj,λj hj=>by
  show hset J'.h b k j=_;rw[au _ _ _ _ jb];exact hf.old j hj⟩
def HL(h:Tr Bk)(e:Nat)(v:B)(n:Nat)(G:Nat->List B):Prop:=
 (n=0/\v=.aQ)\/∃b o c,v=.sl b o n c/\∀i,i<n->ld h b (o+i*e) e true=some (.agg (G i))
def HC(h:Tr Bk)(v:B)(n:Nat)(G:Nat->B):Prop:=
 (n=0/\v=.aQ)\/∃b o c,v=.sl b o n c/\∀i,i<n->ld h b (o+i*1) 1 false=some (.c (G i))
def lenV:V->Option V
 |.c (.sl _ _ n _)=>some (jN n)
 |.c .aQ=>some (jN 0)
 |_=>none
def aoF(b o n:Nat)(c:Cap):lenV (.c (.sl b o n c))=some (jN n):=rfl
def agL:lenV (.c .aQ)=some (jN 0):=rfl
def HL.len{h:Tr Bk}{e:Nat}{v:B}{n:Nat}{G:Nat->List B}(hl:HL h e v n G):lenV (.c v)=some (jN n):=by rcases hl with⟨rfl,rfl⟩|⟨b,o,c,rfl,-⟩<;>rfl
def HC.len{h:Tr Bk}{v:B}{n:Nat}{G:Nat->B}(hl:HC h v n G):lenV (.c v)=some (jN n):=by rcases hl with⟨rfl,rfl⟩|⟨b,o,c,rfl,-⟩<;>rfl
def HL.pos{h:Tr Bk}{e:Nat}{v:B}{n:Nat}{G:Nat->List B}(hl:HL h e v n G)(hn:0<n):∃b o c,v=.sl b o n c/\∀i,i<n->ld h b (o+i*e) e true=some (.agg (G i)):=by
 rcases hl with⟨rfl,-⟩|h
 .omega
 .exact h
def HC.pos{h:Tr Bk}{v:B}{n:Nat}{G:Nat->B}(hl:HC h v n G)(hn:0<n):∃b o c,v=.sl b o n c/\∀i,i<n->ld h b (o+i*1) 1 false=some (.c (G i)):=by
 rcases hl with⟨rfl,-⟩|h
 .omega
 .exact h
theorem HL.fr{J J':St}(hW:WF J)(hf:Fr J J'){e:Nat}{v:B}{n:Nat}{G:Nat->List B}(hl:HL J.h e v n G):HL J'.h e v n G:=by
 rcases hl with h|⟨b,o,c,rfl,h⟩
 .exact .inl h
 .exact .inr ⟨b,o,c,rfl,λi hi=>hf.ld hW (h i hi)⟩
theorem HC.fr{J J':St}(hW:WF J)(hf:Fr J J'){v:B}{n:Nat}{G:Nat->B}(hl:HC J.h v n G):HC J'.h v n G:=by
 rcases hl with h|⟨b,o,c,rfl,h⟩
 .exact .inl h
 .exact .inr ⟨b,o,c,rfl,λi hi=>hf.ld hW (h i hi)⟩
section
variable (E:Env)
def agM(tm:Tr V)(J:St)(Q:Tr V->St->Prop):wpOps E [] tm J Q=Q tm J:=rfl
def wpOps_cons(o:AO)(r:List AO)(tm:Tr V)(J:St)(Q:Tr V->St->Prop):wpOps E (o::r) tm J Q=wpG E o tm J λv J'=>wpOps E r (G6 tm o.dst v) J' Q:=rfl
variable (tm:Tr V) (J:St) (K:V→St→Prop)
def D9(o:Option V)(K:V->Prop):Prop:=match o with|some v=>K v|none=>False
def ajB(v:V)(K:V->Prop):D9 (some v) K=K v:=rfl
theorem fP{op:xq}(h:op.kind=.q)(h2:∀g l,op≠.call g l):wpOp E op tm J K=D9 (dA op tm J) λv=>K v J:=by unfold wpOp;grind[oK,D9]
def atZ(c a b:O):wpOp E (.pick c a b) tm J K=D9 (match c.ev tm with|.c (.bool t)=>some (bif t then a.ev tm else b.ev tm)|_=>none) λv=>K v J:=fP _ _ _ _ rfl λ_ _ h=>by cases h
def o_load(n:Nat)(g:Bool)(x:O):wpOp E (.load n g x) tm J K=D9 (match x.ev tm with|.c (.ptr b o)=>ld J.h b o n g|_=>none) λv=>K v J:=fP _ _ _ _ rfl λ_ _ h=>by cases h
def aoG(off:Nat)(x:O):wpOp E (.Ei off x) tm J K=D9 (match x.ev tm with|.c (.ptr b o)=>some (.c (.ptr b (o+off)))|_=>none) λv=>K v J:=by rw[fP _ _ _ _ (by rfl) λ_ _ h=>by cases h];grind[dA,abV,jr]
def aoH(off n:Nat)(g:Bool)(x:O):wpOp E (.field off n g x) tm J K=D9 (match x.ev tm with|.agg l=>zT l off n g|_=>none) λv=>K v J:=fP _ _ _ _ rfl λ_ _ h=>by cases h
def iaV(e:Nat)(v:V)(i:V):Option V:=match v,En i with|.c (.sl b o n _),some j=>(bif Nat.blt j n then some (.c (.ptr b (o+j*e)))else none)|_,_=>none
def aoI(e:Nat)(x i:O):wpOp E (.Ej e x i) tm J K=D9 (iaV e (x.ev tm) (i.ev tm)) λv=>K v J:=by rw[fP _ _ _ _ (by rfl) λ_ _ h=>by cases h];unfold dA abW iaV;grind[jr]
def at1(e b o n j:Nat)(c:Cap)(h:j<n):iaV e (.c (.sl b o n c)) (jN j)=some (.c (.ptr b (o+j*e))):=by simp_all[iaV,En,DF]
def ayt(i:Nat)(x:O):wpOp E (.ext i x) tm J K=D9 (ai2 i x tm) λv=>K v J:=fP _ _ _ _ rfl λ_ _ h=>by cases h
def ajC:Nat->V->Option V
 |0,.aU a _=>some a
 |1,.aU _ (.aU a _)=>some a
 |2,.aU _ (.aU _ (.aU a _))=>some a
 |_,_=>none
def at6(i:Nat)(x:O)(tm:Tr V):ai2 i x tm=ajC i (x.ev tm):=by unfold ai2 ajC;grind
def at7(a r:V):ajC 0 (.aU a r)=some a:=rfl
def aua(a b r:V):ajC 1 (.aU a (.aU b r))=some b:=rfl
def aub(a b c r:V):ajC 2 (.aU a (.aU b (.aU c r)))=some c:=rfl
def ayu(b:BinOp)(x y:O):wpOp E (.bin b x y) tm J K=D9 (jk b (x.ev tm) (y.ev tm)) λv=>K v J:=fP _ _ _ _ rfl λ_ _ h=>by cases h
def ayv(a b:Int):jk .lss (.c (.int .i64 a)) (.c (.int .i64 b))=some (.c (.bool (decide (a<b)))):=rfl
def ayw(a b:Int):jk .gtr (.c (.int .i64 a)) (.c (.int .i64 b))=some (.c (.bool (decide (b<a)))):=rfl
def ayx(a b:Int):jk .leq (.c (.int .i64 a)) (.c (.int .i64 b))=some (.c (.bool (decide (a<=b)))):=rfl
def ayy(a b:Int):jk .geq (.c (.int .i64 a)) (.c (.int .i64 b))=some (.c (.bool (decide (b<=a)))):=rfl
def ayz(a b:Int):jk .eql (.c (.int .i64 a)) (.c (.int .i64 b))=some (.c (.bool (decide (a=b)))):=rfl
def ayA(a b:Int):jk .neq (.c (.int .i64 a)) (.c (.int .i64 b))=some (.c (.bool (!decide (a=b)))):=rfl
def auc(a b:ByteArray):jk .eql (.c (.str a)) (.c (.str b))=some (.c (.bool (decide (a=b)))):=rfl
def aud(a b:ByteArray):jk .neq (.c (.str a)) (.c (.str b))=some (.c (.bool (!decide (a=b)))):=rfl
def ayB(a b:Nat)(h:a+b<=9223372036854775807):jk .add (jN a) (jN b)=some (jN (a+b)):=by show mkI .i64 (Int.ofNat a+Int.ofNat b)=_;rw[add_ofNat,WA h]
def ajD(a b:Nat)(h:a<=9223372036854775807)(h2:b<=a):jk .sub (jN a) (jN b)=some (jN (a-b)):=by show mkI .i64 (Int.ofNat a-Int.ofNat b)=_;grind[WA]
def ayC(p:Bool)(x y:O):wpOp E (.eqb p x y) tm J K=D9 (match x.ev tm,y.ev tm with|.c (.bool a),.c (.bool b)=>some (.c (.bool (p==(a==b))))|_,_=>none) λv=>K v J:=fP _ _ _ _ rfl λ_ _ h=>by cases h
def aoJ(p:Bool)(x y:O):wpOp E (.Hu p x y) tm J K=D9 (match x.ev tm,y.ev tm with|.agg l,.agg r=>(match eqB l r with|some b=>some (.c (.bool (p==b)))|none=>none)|_,_=>none) λv=>K v J:=fP _ _ _ _ rfl λ_ _ h=>by cases h
def aue(a b c d:Int):eqL [.int .i64 a,.int .i64 b] [.int .i64 c,.int .i64 d]=some (decide (a=c)&&decide (b=d)):=rfl
def aoK(p q:Rat):eqB (rK p) (rK q)=some (decide (p=q)):=by grind[eqB,eqS,decide,abC]
def ayD(k:Nat)(p:Bool)(v:V):Option V:=match k,v with
 |0,.c (.sl ..)=>some (.c (.bool (!p)))
 |0,.c .aQ=>some (.c (.bool p))
 |1,.c (.ptr ..)=>some (.c (.bool (!p)))
 |1,.c .VZ=>some (.c (.bool p))
 |2,.fn ..=>some (.c (.bool (!p)))
 |2,.Pq=>some (.c (.bool p))
 |_,_=>none
def ayE(k:Nat)(p:Bool)(x:O):wpOp E (.nil k p x) tm J K=D9 (ayD k p (x.ev tm)) λv=>K v J:=fP _ _ _ _ rfl λ_ _ h=>by cases h
def ayF(x:O):wpOp E (.not x) tm J K=D9 (match x.ev tm with|.c (.bool b)=>some (.c (.bool !b))|_=>none) λv=>K v J:=fP _ _ _ _ rfl λ_ _ h=>by cases h
def aoL(z:List B)(ps:List (Nat×Nat×O)):wpOp E (.build z ps) tm J K=D9 (match Em z (ps.map λp=>(p.1,p.2.1,p.2.2.ev tm))with|some l=>some (.agg l)|none=>none) λv=>K v J:=fP _ _ _ _ rfl λ_ _ h=>by cases h
def auf(f:Nat)(cs:List O):wpOp E (.Tq f cs) tm J K=D9 (match abU tm cs with|some l=>some (.fn f l)|none=>none) λv=>K v J:=fP _ _ _ _ rfl λ_ _ h=>by cases h
def ayG(x:O):wpOp E (.len x) tm J K=D9 (lenV (x.ev tm)) λv=>K v J:=fP _ _ _ _ rfl λ_ _ h=>by cases h
def aug(x:O):wpOp E (.Tv x) tm J K=D9 (match x.ev tm with|.c (.ptr b o)=>some (.c (.ptr b o))|.fn f l=>some (.fn f l)|_=>none) λv=>K v J:=fP _ _ _ _ rfl λ_ _ h=>by cases h
def aoM(z:List B):wpOp E (.alloc z) tm J K=K (.c (.ptr J.aj 0)) ⟨hset J.h J.aj ⟨z,none⟩,J.aj+1⟩:=by rfl
def ayH(x:O):wpOp E (.box x) tm J K=match(x.ev tm).cells with|some l=>K (.c (.ptr J.aj 0)) ⟨hset J.h J.aj ⟨l,none⟩,J.aj+1⟩|none=>False:=by grind[wpOp,oK,xq.kind,oO,lZ]
def auh(bytes:Nat)(z:List B)(l c:O):wpOp E (.Nu bytes z l c) tm J K=match En (l.ev tm),En (c.ev tm)with
  |some n,some m=>(bif Nat.ble n m&&(Nat.ble (bytes*m) 281474976710656&&Nat.ble m 1073741824)then K (.c (.sl J.aj 0 n (.ex m))) ⟨hset J.h J.aj ⟨rep z m,none⟩,J.aj+1⟩else False)
  |_,_=>False:=by
 grind[wpOp,oK,xq.kind,oO,lZ]
def ayI(e n:Nat)(z:List B)(ps:List (Nat×Nat×O))(h:n*e<=16777216)(h':n<=16777216):wpOp E (.bsl e n z ps) tm J K=match Em (rep z n) (ps.map λp=>(p.1,p.2.1,p.2.2.ev tm))with
  |some l=>K (.c (.sl J.aj 0 n (.ex n))) ⟨hset J.h J.aj ⟨l,none⟩,J.aj+1⟩|none=>False:=by
 grind[wpOp,oK,xq.kind,oO,lZ,nV]
def aoN(n:Nat)(a x:O):wpOp E (.store n a x) tm J K=match a.ev tm,(x.ev tm).cells with
  |.c (.ptr b o),some vs=>(bif Nat.beq vs.length n then(match sto J.h b o vs with|some h=>K .und ⟨h,J.aj⟩|none=>False)else False)
  |_,_=>False:=by
 grind[wpOp,oK,xq.kind,agK]
def aui(g:O)(args:List O):wpOp E (.call g args) tm J K=match g.ev tm with|.fn f caps=>aB E f (args.map (·.ev tm)++caps.map .c) J K|_=>False:=rfl
end
end Go.Proofs.Xe
end
