import Derived.Test.YtchhojplceoifaaGreatDoorYe9
set_option linter.all false
set_option maxRecDepth 100000
noncomputable section
namespace Go.Proofs.Xe
open Go.RowKit Go.Proofs.Ins
def szK:Nat:=60000000
def Sz(q:Rat):Prop:=Sm szK q
def Ep(a:Nat):Prop:=(bn a).size<=60000000
def rV(q:Rat):V:=.agg [.bool (rn q),.str (rs q),.str (rd q)]
def rbV(q:Rat)(b:Bool):V:=.aV (rV q) (.aV (.c (.bool b)) .tnil)
def iV(i:Int):V:=.c (.int .i64 i)
def Sz.sizes{p:Rat}(h:Sz p):(rs p).size<=60000000/\(rd p).size<=60000000:=⟨Sm.rs h,Sm.rd h⟩
def KF(a b:Nat):Rat:=((Int.ofNat a:Int):Rat)/((Int.ofNat b:Int):Rat)
def Ze{a b:Nat}(h:bn a=bn b):a=b:=by rw[<-iy a,<-iy b,h]
abbrev kb(b:Bool):O:=.k (.c (.bool b))
abbrev d(n:Nat):Option Nat:=some n
abbrev s0:B:=.str ⟨#[]⟩
abbrev i0:B:=.int .i64 (.ofNat 0)
def PS(c:Bool)(R:Rat->Rat->V):List V->Option V
 |[.agg [.bool n,.str s,.str d],.agg [.bool m,.str t,.str e]]=>if(s.size+d.size<=130000000/\t.size+e.size<=130000000)/\(c=true->PY n s d/\PY m t e)then some (R (rq n s d) (rq m t e))else none
 |_=>none
def Y2(c:Bool)(R:Rat->V):List V->Option V
 |[.agg [.bool n,.str s,.str d]]=>if s.size+d.size<=130000000/\(c=true->PY n s d)then some (R (rq n s d))else none
 |_=>none
def kVd:List V->Option V
 |[.agg [.bool n,.str s,.str d]]=>if s.size+d.size<=130000000 then some (.c (.bool (decide (PY n s d))))else none
 |_=>none
def kN1(R:Nat->V):List V->Option V
 |[.c (.str s)]=>if s.size<=1073741824 then some (R (nv s))else none
 |_=>none
def Y3(R:Nat->Nat->Option V):List V->Option V
 |[.c (.str s),.c (.str t)]=>if s.size<=1073741824/\t.size<=1073741824 then R (nv s) (nv t)else none
 |_=>none
def kB3(R:Bool->Nat->Nat->Option V):List V->Option V
 |[.c (.bool n),.c (.str s),.c (.str t)]=>if s.size<=1073741824/\t.size<=1073741824 then R n (nv s) (nv t)else none
 |_=>none
def kI(k:IntKind)(l h:Int)(R:Int->V):List V->Option V
 |[.c (.int j i)]=>if j=k/\l<=i/\i<=h then some (R i)else none
 |_=>none
def kQ(R:Int->Int->V):List V->Option V
 |[.c (.int j i),.c (.int k m)]=>if(j=.i64/\0<=i/\i<23)/\k=.i64/\0<m/\(m<7\/m=8)then some (R i m)else none
 |_=>none
def C9(c:Bool)(R:Rat->Rat->V){p q:Rat}(hp:Sz p)(hq:Sz q):PS c R [rV p,rV q]=some (R p q):=by unfold PS rV;have:=hp.sizes;have:=hq.sizes;simp only;rw[ab ⟨jb,λ_=>⟨CB p,CB q⟩⟩,Fj,Fj]
def ZT(c:Bool)(R:Rat->V){p:Rat}(hp:Sz p):Y2 c R [rV p]=some (R p):=by unfold Y2 rV;have:=hp.sizes;simp only;rw[ab ⟨jb,λ_=>CB p⟩,Fj]
def aqj{p:Rat}(hp:Sz p):kVd [rV p]=some (.c (.bool true)):=by unfold kVd rV;have:=hp.sizes;simp only;rw[ab jb,bh (CB p)]
def NS(R:Nat->Nat->Option V){a b:Nat}{v:V}(ha:Ep a)(hb:Ep b)(h:R a b=some v):Y3 R [.c (.str (bn a)),.c (.str (bn b))]=some v:=by unfold Y3 Ep at*;simp only;rw[ab jb,iy,iy,h]
def aqk(R:Bool->Nat->Nat->Option V){n:Bool}{a b:Nat}{v:V}(ha:Ep a)(hb:Ep b)(h:R n a b=some v):kB3 R [.c (.bool n),.c (.str (bn a)),.c (.str (bn b))]=some v:=by unfold kB3 Ep at*;simp only;rw[ab jb,iy,iy,h]
noncomputable section
def jD(f:Nat):List V->Option V:=
 bif Nat.beq f 114 then(kN1 λa=>.c (.str (bn a)))else
 bif Nat.beq f 61 then(Y3 λa b=>some (iV (qL a b)))else
 bif Nat.beq f 111 then(Y3 λa b=>some (.c (.str (bn (a+b)))))else
 bif Nat.beq f 62 then(Y3 λa b=>some (.c (.str (bn (a*b)))))else
 bif Nat.beq f 119 then(Y3 λa b=>some (.c (.str (bn (Nat.gcd a b)))))else
 bif Nat.beq f 112 then(Y3 λa b=>some (if b<=a then .aV (.c (.str (bn (a-b)))) (.aV (.c (.bool true)) .tnil)else .aV (.c (.str ⟨#[]⟩)) (.aV (.c (.bool false)) .tnil)))else
 bif Nat.beq f 120 then(Y3 λa b=>if 0<b then some (.aV (.c (.str (bn (a/b)))) (.aV (.c (.str (bn (a%b)))) (.aV (.c (.bool true)) .tnil)))else none)else
 bif Nat.beq f 121 then(kI .u64 0 18446744073709551615 λi=>.c (.str (bn i.toNat)))else
 bif Nat.beq f 66 then(kI .i64 0 100 λi=>rV i)else
 bif Nat.beq f 23 then(kQ λi j=>rV ((i:Rat)/(j:Rat)))else
 bif Nat.beq f 21 then(kI .u16 0 65535 λi=>rV (amt i.toNat))else
 bif Nat.beq f 63 then(Y2 true λp=>.c (.str (bn p.den)))else
 bif Nat.beq f 113 then kVd else
 bif Nat.beq f 59 then(Y2 false λp=>rV p)else
 bif Nat.beq f 64 then(kB3 λn a b=>if 0<b then some (rV (fr n a b))else none)else
 bif Nat.beq f 196 then(kB3 λn a b=>some (if b=0 then rbV 0 false else rbV (fr n a b) true))else
 bif Nat.beq f 65 then(kI .i64 (-9223372036854775808) 9223372036854775807 λi=>.c (.str (bn i.natAbs)))else
 bif Nat.beq f 19 then(kI .i64 (-9223372036854775808) 9223372036854775807 λi=>rV i)else
 bif Nat.beq f 60 then(Y2 true λp=>iV (sg p))else
 bif Nat.beq f 20 then(Y2 false λp=>iV (sg p))else
 bif Nat.beq f 68 then(Y2 true λp=>rV (-p))else
 bif Nat.beq f 58 then(PS true λp q=>rV (p+q))else
 bif Nat.beq f 17 then(PS false λp q=>rV (p+q))else
 bif Nat.beq f 24 then(PS false λp q=>rV (p-q))else
 bif Nat.beq f 25 then(PS false λp q=>rV (p*q))else
 bif Nat.beq f 157 then(PS false λp q=>rbV (Hu p q) (okR q))else
 bif Nat.beq f 18 then(PS false λp q=>iV (oQ p q))else
 bif Nat.beq f 184 then(PS false λp q=>rV (Jj p q))else
 bif Nat.beq f 91 then(PS false λp q=>rV (Hw p q))else
 λ_=>none
end
class jE (E:Env) (f:Nat):Prop where
 o:∀args v σ,jD f args=some v->E.Wi f args σ=some (v,σ)
def agE{E:Env}{f:Nat}{args:List V}{v:V}{σ σ2:St}{K:V->St->Prop}(h:E.Wi f args σ=some (v,σ2)):aC E f args σ K=K v σ2:=by
 refine propext ⟨λ⟨n,v',σ',h1,h2⟩=>?_,λhk=>WS h hk⟩;have h3:jf E 1 f args σ=some (v,σ2):=by rw[jf];unfold G7;rw[h]
 have a:=nP (show n<=n+1 by omega) f args σ _ h1;have b:=nP (show 1<=n+1 by omega) f args σ _ h3;rw[a]at b;cases b;exact h2
def aT{E:Env}{f:Nat}[hE:jE E f]{args:List V}{v:V}{σ:St}{K:V->St->Prop}(h:jD f args=some v):aC E f args σ K=K v σ:=agE (hE.o args v σ h)
def NT(P:Program)(f:Nat):Bool:=match P.funcs[f]? with|some fn=> !fn.body.isNone&& !(fn.name== "runtime.NumGoroutine")|none=>false
def yY{P:Program}{f:Nat}(h:NT P f=true):okF P f:=by
 unfold NT at h;split at h
 .next fn hfn=>
  simp only[af,gc]at h;exact⟨fn,hfn,h.1,h.2⟩
 .cases h
def Ct(P:Program)(f:Nat)(v:V)(bU:Array Value)(w:World):Prop:=
 Calls P f bU w λe w'=>∃cv,e=.returned cv/\Below w.heap.size w w'/\∀φ',RV φ' v cv
class zJ (f:Nat):Prop where
 k:okF Tryz.prog f
 c:∀args v,jD f args=some v->∀(φ:Ph) (bU:Array Value) (w:World),G8 φ args bU.toList->Ct Tryz.prog f v bU w
class OkL (l:List Nat):Prop where
 o:∀f,l.contains f=true->zJ f
class Mm (f:Nat) (l:List Nat):Prop where
 h:l.contains f=true
instance:OkL []:=⟨nofun⟩
instance {f:Nat}{l:List Nat} [h:zJ f] [hl:OkL l]:OkL (f::l):=⟨λg hg=>by
 rw[List.contains_cons,ja]at hg;rcases hg with hg|hg
 .rw[eq_of_beq hg];exact h
 .exact hl.o g hg⟩
instance {f:Nat}{l:List Nat}:Mm f (f::l):=⟨by simp⟩
instance {f g:Nat}{l:List Nat} [h:Mm f l]:Mm f (g::l):=⟨by simpa using .inr (by simpa using h.h)⟩
def Eb(l:List Nat):Env:=⟨tF Tryz.prog,λf args σ=>bif l.contains f then(match jD f args with|some v=>some (v,σ)|none=>none)else none⟩
instance {f:Nat}{l:List Nat} [h:Mm f l]:jE (Eb l) f:=⟨λargs v σ hv=>by unfold Eb;dsimp only;rw[h.h,hv];rfl⟩
def zJ.Wi{f:Nat}(h:zJ f){args:List V}{σ σ':St}{v:V}(ho:(match jD f args with|some v=>some (v,σ)|none=>none)=some (v,σ')):okF Tryz.prog f/\∀(N:Nat) (w0:World) (φ:Ph) (w:World) (bU:Array Value),Rel N w0 φ σ w->G8 φ args bU.toList->
  Calls Tryz.prog f bU w λe w'=>∃cv,e=.returned cv/\∃φ',Ext σ.aj φ φ'/\Rel N w0 φ' σ' w'/\RV φ' v cv/\σ.aj<=σ'.aj:=by
 split at ho
 .next u hu=>
  cases ho
  refine⟨h.k,λN w0 φ w bU hR ha=>(h.c _ _ hu φ bU w ha).mono λe w' he=>?_⟩
  obtain⟨cv,rfl,hb,hv⟩:=he
  exact⟨cv,rfl,φ,Ext.refl _ _,hR.below hb,hv φ,jp⟩
 .cases ho
def QW{l:List Nat}[h:OkL l]:NK Tryz.prog (Eb l):=by
 refine⟨λf F h=>agx h,λf args σ v σ' ho=>?_⟩;unfold Eb at ho;dsimp only at ho;cases hc:l.contains f with
 |false=>rw[hc]at ho;cases ho
 |true=>rw[hc]at ho;exact(h.o f hc).Wi ho
def fB:B->Bool
 |.int ..|.bool _|.str _=>true
 |_=>false
def fV:V->Bool
 |.c x=>fB x
 |.agg l=>l.all fB
 |.aV a r=>fV a&&fV r
 |.tnil=>true
 |_=>false
section
variable {φ φ' : Ph}
def RB.flat{x:B}{v:Value}(h:fB x=true)(hv:RB φ x v):RB φ' x v:=by cases x<;>first|exact hv|cases h
def kK.flat:∀{l:List B}{r:List Value},l.all fB=true->kK φ l r->kK φ' l r
 |[],[],_,_=>trivial
 |_::_,_::_,h,hv=>by rw[cW,af]at h;exact⟨hv.1.flat h.1,kK.flat h.2 hv.2⟩
 |[],_::_,_,hv=>hv.elim
 |_::_,[],_,hv=>hv.elim
def RV.flat:∀{x:V}{v:Value},fV x=true->RV φ x v->RV φ' x v
 |.c _,_,h,hv=>RB.flat h hv
 |.agg _,_,h,⟨r,e,hr⟩=>⟨r,e,hr.flat h⟩
 |.aV _ _,_,h,⟨x,xs,e,h1,h2⟩=>by unfold fV at h;rw[af]at h;exact⟨x,xs,e,h1.flat h.1,h2.flat h.2⟩
 |.tnil,_,_,hv=>hv
def G8.flat:∀{l:List V}{r:List Value},l.all fV=true->G8 φ l r->G8 φ' l r
 |[],[],_,_=>trivial
 |_::_,_::_,h,hv=>by rw[cW,af]at h;exact⟨hv.1.flat h.1,G8.flat h.2 hv.2⟩
 |[],_::_,_,hv=>hv.elim
 |_::_,[],_,hv=>hv.elim
end
def axB(w:World):Rel w.heap.size w (λ_=>none) ⟨.leaf,0⟩ w:=
 ⟨jp,Below.refl _ _,nofun,nofun,nofun,nofun,λb _=>⟨rfl,Tr.Nc b⟩⟩
def FX{E:Env}(hE:NK Tryz.prog E){f:Nat}{args:List V}{v:V}(ha:args.all fV=true)(hv:fV v=true)(h:aC E f args ⟨.leaf,0⟩ λr _=>r=v)(φ:Ph)(bU:Array Value)(w:World)(hr:G8 φ args bU.toList):Ct Tryz.prog f v bU w:=by obtain⟨n,r,σ',h1,rfl⟩:=h;refine(QU hE (by kernel_rfl) h1 (axB w) (hr.flat ha)).mono λe w' he=>?_;obtain⟨cv,rfl,φ',-,hR,hc,-⟩:=he;exact⟨cv,rfl,hR.bel,λφ=>hc.flat hv⟩
structure QX(k:Nat) where
 a:AF
 g:tG Tryz.prog k=some a:=by conv=>(lhs;reduce;simp only[aoS,auz])
 i:WH Tryz.prog k a=true:=by kernel_rfl
def qO{f:Nat}{l:List Nat}(b:QX f)(hl:l.contains f=false){args:List V}{σ:St}{K:V->St->Prop}(h:bK (Eb l) b.a.body (ini args) σ (ZR b.a.res K)):aC (Eb l) f args σ K:=
 aO (by unfold Eb;dsimp only;rw[hl];rfl) (aoR b.g b.i) h
section
variable {E:Env} {σ:St} {K:V→St→Prop}
def wu:jD 114=kN1 (λa=>.c (.str (bn a))):=rfl
def yI:jD 61=Y3 (λa b=>some (iV (qL a b))):=rfl
def yZ:jD 111=Y3 (λa b=>some (.c (.str (bn (a+b))))):=rfl
def aql[jE E 111](a b:Nat)(h1:Ep a)(h2:Ep b):aC E 111 [.c (.str (bn a)),.c (.str (bn b))] σ K=K (.c (.str (bn (a+b)))) σ:=aT ((cf yZ _).trans (NS _ h1 h2 (by first|rfl|simp)))
def pU:jD 62=Y3 (λa b=>some (.c (.str (bn (a*b))))):=rfl
def WT[jE E 62](a b:Nat)(h1:Ep a)(h2:Ep b):aC E 62 [.c (.str (bn a)),.c (.str (bn b))] σ K=K (.c (.str (bn (a*b)))) σ:=aT ((cf pU _).trans (NS _ h1 h2 (by first|rfl|simp)))
def y7:jD 119=Y3 (λa b=>some (.c (.str (bn (Nat.gcd a b))))):=rfl
def aqm[jE E 119](a b:Nat)(h1:Ep a)(h2:Ep b):aC E 119 [.c (.str (bn a)),.c (.str (bn b))] σ K=K (.c (.str (bn (Nat.gcd a b)))) σ:=aT ((cf y7 _).trans (NS _ h1 h2 (by first|rfl|simp)))
def pV:jD 112=Y3 (λa b=>some (if b<=a then .aV (.c (.str (bn (a-b)))) (.aV (.c (.bool true)) .tnil)else .aV (.c (.str ⟨#[]⟩)) (.aV (.c (.bool false)) .tnil))):=rfl
def WU[jE E 112](a b:Nat)(h1:Ep a)(h2:Ep b):aC E 112 [.c (.str (bn a)),.c (.str (bn b))] σ K=K (if b<=a then .aV (.c (.str (bn (a-b)))) (.aV (.c (.bool true)) .tnil)else .aV (.c (.str ⟨#[]⟩)) (.aV (.c (.bool false)) .tnil)) σ:=aT ((cf pV _).trans (NS _ h1 h2 (by first|rfl|simp)))
def sW:jD 120=Y3 (λa b=>if 0<b then some (.aV (.c (.str (bn (a/b)))) (.aV (.c (.str (bn (a%b)))) (.aV (.c (.bool true)) .tnil)))else none):=rfl
def adV[jE E 120](a b:Nat)(h1:Ep a)(h2:Ep b)(h0:0<b):aC E 120 [.c (.str (bn a)),.c (.str (bn b))] σ K=K (.aV (.c (.str (bn (a/b)))) (.aV (.c (.str (bn (a%b)))) (.aV (.c (.bool true)) .tnil))) σ:=aT ((cf sW _).trans (NS _ h1 h2 (ab h0)))
def pW:jD 121=kI .u64 0 18446744073709551615 (λi=>.c (.str (bn i.toNat))):=rfl
def WV[jE E 121](x:Nat)(h1:x<18446744073709551616):aC E 121 [.c (.int .u64 (.ofNat x))] σ K=K (.c (.str (bn x))) σ:=aT ((cf pW _).trans (ab ⟨rfl,by simp,by simp only[cY];omega⟩))
def Hz:jD 66=kI .i64 0 100 (λi=>rV i):=rfl
def agF[jE E 66](x:Nat)(h1:x<=100):aC E 66 [.c (.int .i64 (.ofNat x))] σ K=K (.agg [.bool (rn ((Int.ofNat x:Int):Rat)),.str (rs ((Int.ofNat x:Int):Rat)),.str (rd ((Int.ofNat x:Int):Rat))]) σ:=aT ((cf Hz _).trans (ab ⟨rfl,by simp,by simp only[cY];omega⟩))
def H6:jD 23=kQ (λi j=>rV ((i:Rat)/(j:Rat))):=rfl
def agG[jE E 23](a b:Nat)(h1:a<23)(h2:0<b)(h3:b<7\/b=8):aC E 23 [.c (.int .i64 (.ofNat a)),.c (.int .i64 (.ofNat b))] σ K=K (.agg [.bool (rn (KF a b)),.str (rs (KF a b)),.str (rd (KF a b))]) σ:=aT ((cf H6 _).trans (ab ⟨⟨rfl,by simp,by simp only[cY];omega⟩,rfl,by simp only[cY];omega,by simp only[cY];omega⟩))
def FD:jD 21=kI .u16 0 65535 (λi=>rV (amt i.toNat)):=rfl
def adW[jE E 21](x:Nat)(h1:x<=65535):aC E 21 [.c (.int .u16 (.ofNat x))] σ K=K (.agg [.bool (rn (amt x)),.str (rs (amt x)),.str (rd (amt x))]) σ:=aT ((cf FD _).trans (ab ⟨rfl,by simp,by simp only[cY];omega⟩))
def fK:jD 63=Y2 true (λp=>.c (.str (bn p.den))):=rfl
def sZ:jD 113=kVd:=rfl
def abP[jE E 113](p:Rat)(hp:Sz p):aC E 113 [.agg [.bool (rn p),.str (rs p),.str (rd p)]] σ K=K (.c (.bool true)) σ:=aT ((cf sZ _).trans (aqj hp))
def nY:jD 59=Y2 false (λp=>rV p):=rfl
def alp[jE E 59](p:Rat)(hp:Sz p):aC E 59 [.agg [.bool (rn p),.str (rs p),.str (rd p)]] σ K=K (.agg [.bool (rn p),.str (rs p),.str (rd p)]) σ:=aT ((cf nY _).trans (ZT _ _ hp))
def WW[jE E 59](n:Bool)(s d:ByteArray)(h1:s.size+d.size<=130000000):aC E 59 [.agg [.bool n,.str s,.str d]] σ K=K (.agg [.bool (rn (rq n s d)),.str (rs (rq n s d)),.str (rd (rq n s d))]) σ:=aT ((cf nY _).trans (ab ⟨h1,nofun⟩))
def xB:jD 64=kB3 (λn a b=>if 0<b then some (rV (fr n a b))else none):=rfl
def vw:jD 196=kB3 (λn a b=>some (if b=0 then rbV 0 false else rbV (fr n a b) true)):=rfl
def aqn[jE E 196](n:Bool)(a b:Nat)(h1:Ep a)(h2:Ep b)(h0:0<b):aC E 196 [.c (.bool n),.c (.str (bn a)),.c (.str (bn b))] σ K=K (.aV (.agg [.bool (rn (fr n a b)),.str (rs (fr n a b)),.str (rd (fr n a b))]) (.aV (.c (.bool true)) .tnil)) σ:=aT ((cf vw _).trans (aqk _ h1 h2 (by rw[ae jb];rfl)))
def uP:jD 65=kI .i64 (-9223372036854775808) 9223372036854775807 (λi=>.c (.str (bn i.natAbs))):=rfl
def Dc:jD 19=kI .i64 (-9223372036854775808) 9223372036854775807 (λi=>rV i):=rfl
def auA[jE E 19](i:Int)(h1: -9223372036854775808<=i)(h2:i<=9223372036854775807):aC E 19 [.c (.int .i64 i)] σ K=K (.agg [.bool (rn i),.str (rs i),.str (rd i)]) σ:=aT ((cf Dc _).trans (ab ⟨rfl,h1,h2⟩))
def jM:jD 60=Y2 true (λp=>iV (sg p)):=rfl
def vC:jD 20=Y2 false (λp=>iV (sg p)):=rfl
def aqo[jE E 20](p:Rat)(hp:Sz p):aC E 20 [.agg [.bool (rn p),.str (rs p),.str (rd p)]] σ K=K (.c (.int .i64 (sg p))) σ:=aT ((cf vC _).trans (ZT _ _ hp))
def alq[jE E 20](n:Bool)(s d:ByteArray)(h1:s.size+d.size<=130000000):aC E 20 [.agg [.bool n,.str s,.str d]] σ K=K (.c (.int .i64 (sg (rq n s d)))) σ:=aT ((cf vC _).trans (ab ⟨h1,nofun⟩))
def qP:jD 68=Y2 true (λp=>rV (-p)):=rfl
def agH[jE E 68](p:Rat)(hp:Sz p):aC E 68 [.agg [.bool (rn p),.str (rs p),.str (rd p)]] σ K=K (.agg [.bool (rn (-p)),.str (rs (-p)),.str (rd (-p))]) σ:=aT ((cf qP _).trans (ZT _ _ hp))
def qQ:jD 58=PS true (λp q=>rV (p+q)):=rfl
def auB[jE E 58](p q:Rat)(hp:Sz p)(hq:Sz q):aC E 58 [.agg [.bool (rn p),.str (rs p),.str (rd p)],.agg [.bool (rn q),.str (rs q),.str (rd q)]] σ K=K (.agg [.bool (rn (p+q)),.str (rs (p+q)),.str (rd (p+q))]) σ:=aT ((cf qQ _).trans (C9 _ _ hp hq))
def xC:jD 17=PS false (λp q=>rV (p+q)):=rfl
def auC[jE E 17](p q:Rat)(hp:Sz p)(hq:Sz q):aC E 17 [.agg [.bool (rn p),.str (rs p),.str (rd p)],.agg [.bool (rn q),.str (rs q),.str (rd q)]] σ K=K (.agg [.bool (rn (p+q)),.str (rs (p+q)),.str (rd (p+q))]) σ:=aT ((cf xC _).trans (C9 _ _ hp hq))
def aqp[jE E 17](n m:Bool)(s d t e:ByteArray)(h1:s.size+d.size<=130000000)(h2:t.size+e.size<=130000000):aC E 17 [.agg [.bool n,.str s,.str d],.agg [.bool m,.str t,.str e]] σ K=K (.agg [.bool (rn ((rq n s d)+(rq m t e))),.str (rs ((rq n s d)+(rq m t e))),.str (rd ((rq n s d)+(rq m t e)))]) σ:=aT ((cf xC _).trans (ab ⟨⟨h1,h2⟩,nofun⟩))
def oG:jD 24=PS false (λp q=>rV (p-q)):=rfl
def ZU[jE E 24](p q:Rat)(hp:Sz p)(hq:Sz q):aC E 24 [.agg [.bool (rn p),.str (rs p),.str (rd p)],.agg [.bool (rn q),.str (rs q),.str (rd q)]] σ K=K (.agg [.bool (rn (p-q)),.str (rs (p-q)),.str (rd (p-q))]) σ:=aT ((cf oG _).trans (C9 _ _ hp hq))
def WX[jE E 24](n m:Bool)(s d t e:ByteArray)(h1:s.size+d.size<=130000000)(h2:t.size+e.size<=130000000):aC E 24 [.agg [.bool n,.str s,.str d],.agg [.bool m,.str t,.str e]] σ K=K (.agg [.bool (rn ((rq n s d)-(rq m t e))),.str (rs ((rq n s d)-(rq m t e))),.str (rd ((rq n s d)-(rq m t e)))]) σ:=aT ((cf oG _).trans (ab ⟨⟨h1,h2⟩,nofun⟩))
def wz:jD 25=PS false (λp q=>rV (p*q)):=rfl
def ZV[jE E 25](p q:Rat)(hp:Sz p)(hq:Sz q):aC E 25 [.agg [.bool (rn p),.str (rs p),.str (rd p)],.agg [.bool (rn q),.str (rs q),.str (rd q)]] σ K=K (.agg [.bool (rn (p*q)),.str (rs (p*q)),.str (rd (p*q))]) σ:=aT ((cf wz _).trans (C9 _ _ hp hq))
def yJ:jD 157=PS false (λp q=>rbV (Hu p q) (okR q)):=rfl
def agI[jE E 157](p q:Rat)(hp:Sz p)(hq:Sz q):aC E 157 [.agg [.bool (rn p),.str (rs p),.str (rd p)],.agg [.bool (rn q),.str (rs q),.str (rd q)]] σ K=K (.aV (.agg [.bool (rn (Hu p q)),.str (rs (Hu p q)),.str (rd (Hu p q))]) (.aV (.c (.bool (okR q))) .tnil)) σ:=aT ((cf yJ _).trans (C9 _ _ hp hq))
def lN:jD 18=PS false (λp q=>iV (oQ p q)):=rfl
def adZ[jE E 18](p q:Rat)(hp:Sz p)(hq:Sz q):aC E 18 [.agg [.bool (rn p),.str (rs p),.str (rd p)],.agg [.bool (rn q),.str (rs q),.str (rd q)]] σ K=K (.c (.int .i64 (oQ p q))) σ:=aT ((cf lN _).trans (C9 _ _ hp hq))
def xE:jD 184=PS false (λp q=>rV (Jj p q)):=rfl
def auD[jE E 184](p q:Rat)(hp:Sz p)(hq:Sz q):aC E 184 [.agg [.bool (rn p),.str (rs p),.str (rd p)],.agg [.bool (rn q),.str (rs q),.str (rd q)]] σ K=K (.agg [.bool (rn (Jj p q)),.str (rs (Jj p q)),.str (rd (Jj p q))]) σ:=aT ((cf xE _).trans (C9 _ _ hp hq))
def aqr[jE E 184](n m:Bool)(s d t e:ByteArray)(h1:s.size+d.size<=130000000)(h2:t.size+e.size<=130000000):aC E 184 [.agg [.bool n,.str s,.str d],.agg [.bool m,.str t,.str e]] σ K=K (.agg [.bool (rn (Jj (rq n s d) (rq m t e))),.str (rs (Jj (rq n s d) (rq m t e))),.str (rd (Jj (rq n s d) (rq m t e)))]) σ:=aT ((cf xE _).trans (ab ⟨⟨h1,h2⟩,nofun⟩))
def xG:jD 91=PS false (λp q=>rV (Hw p q)):=rfl
def auE[jE E 91](p q:Rat)(hp:Sz p)(hq:Sz q):aC E 91 [.agg [.bool (rn p),.str (rs p),.str (rd p)],.agg [.bool (rn q),.str (rs q),.str (rd q)]] σ K=K (.agg [.bool (rn (Hw p q)),.str (rs (Hw p q)),.str (rd (Hw p q))]) σ:=aT ((cf xG _).trans (C9 _ _ hp hq))
def aqs[jE E 91](n m:Bool)(s d t e:ByteArray)(h1:s.size+d.size<=130000000)(h2:t.size+e.size<=130000000):aC E 91 [.agg [.bool n,.str s,.str d],.agg [.bool m,.str t,.str e]] σ K=K (.agg [.bool (rn (Hw (rq n s d) (rq m t e))),.str (rs (Hw (rq n s d) (rq m t e))),.str (rd (Hw (rq n s d) (rq m t e)))]) σ:=aT ((cf xG _).trans (ab ⟨⟨h1,h2⟩,nofun⟩))
end
end Go.Proofs.Xe
namespace Go.Proofs.Xe
open Go.RowKit Go.Proofs.Ins
def ad1(tm:Tr V)(d:Nat)(v:V):Tr.ah (EU tm (some d) v) d=v:=by grind[Tr.ah,EU,Tr.uz]
def alr(tm:Tr V)(d j:Nat)(v:V)(h:j≠d):Tr.ah (EU tm (some d) v) j=Tr.ah tm j:=by grind[Tr.ah,EU,Tr.uz]
def ad2(tm:Tr V)(v:V):EU tm none v=tm:=rfl
def ad3(a:V)(l:List V):Tr.ah (ini (a::l)) 0=a:=by grind[Tr.ah,AQ]
def ad4(a b:V)(l:List V):Tr.ah (ini (a::b::l)) 1=b:=by grind[Tr.ah,AQ]
def ad5(a b c:V)(l:List V):Tr.ah (ini (a::b::c::l)) 2=c:=by grind[Tr.ah,AQ]
def ad6(a b c d:V)(l:List V):Tr.ah (ini (a::b::c::d::l)) 3=d:=by grind[Tr.ah,AQ]
def ad7(a b c d e:V)(l:List V):Tr.ah (ini (a::b::c::d::e::l)) 4=e:=by grind[Tr.ah,AQ]
def ad8(a b c d e f:V)(l:List V):Tr.ah (ini (a::b::c::d::e::f::l)) 5=f:=by grind[Tr.ah,AQ]
def ad9(a b c d e f g:V)(l:List V):Tr.ah (ini (a::b::c::d::e::f::g::l)) 6=g:=by simp_all[Tr.ah,AQ]
def axC(tm:Tr V)(i:Nat):O.ev tm (.t i)=Tr.ah tm i:=rfl
def axD(tm:Tr V)(v:V):O.ev tm (.k v)=v:=rfl
def z3(l:List B):(B.bool false::s0::s0::l)=(.bool (rn 0):: .str (rs 0):: .str (rd 0)::l):=rfl
def hset(h:Tr Bk)(b:Nat)(k:Bk):Tr Bk:=h.set b (some k)
theorem aA(h:Tr Bk)(b:Nat)(k:Bk):hset h b k b=some k:=by grind[hset,Tr.uz]
theorem au(h:Tr Bk)(b j:Nat)(k:Bk)(e:j≠b):hset h b k j=h j:=by grind[hset,Tr.uz]
def ld(h:Tr Bk)(b o n:Nat)(g:Bool):Option V:=match h b with|some k=>bif k.rd then zQ k.cells o n g else none|none=>none
def sto(h:Tr Bk)(b o:Nat)(vs:List B):Option (Tr Bk):=match h b with
 |some k=>(match bif k.pl then yH k.cells o vs else none with|some l=>some (hset h b ⟨l,k.opn⟩)|none=>none)
 |none=>none
def agJ(n:Nat)(g:Bool)(x:O)(tm:Tr V)(σ:St):abE n g x tm σ=match x.ev tm with|.c (.ptr b o)=>ld σ.h b o n g|_=>none:=rfl
theorem aea(n:Nat)(a x:O)(tm:Tr V)(σ:St):uN (.store n a x) tm σ=match a.ev tm,(x.ev tm).cells with
  |.c (.ptr b o),some vs=>bif Nat.beq vs.length n then(match sto σ.h b o vs with|some h=>some (.und,⟨h,σ.aj⟩)|none=>none)else none
  |_,_=>none:=by
 unfold uN sto
 dsimp only
 generalize O.ev tm a=va
 generalize (O.ev tm x).cells=vc
 cases vc with
 |none=>simp
 |some vs=>
  split
  .next b o vs' e=>
   cases e
   dsimp only
   cases Nat.beq vs.length n with
   |false=>rfl
   |true=>
    simp only[cD]
    cases σ.h b with
    |none=>rfl
    |some k=>
     dsimp only
     cases(bif k.pl then yH k.cells o vs else none)with
     |none=>rfl
     |some l=>rfl
  simp
theorem kL(σ:St)(k:Bk):σ.new k=some (σ.aj,⟨hset σ.h σ.aj k,σ.aj+1⟩):=by rfl
def als(h:Tr Bk)(b:Nat)(k:Bk)(o n:Nat)(g:Bool):ld (hset h b k) b o n g=bif k.rd then zQ k.cells o n g else none:=by unfold ld;rw[aA]
def auF(h:Tr Bk)(b j:Nat)(k:Bk)(o n:Nat)(g:Bool)(e:j≠b):ld (hset h b k) j o n g=ld h j o n g:=by grind[ld,au]
def agK(h:Tr Bk)(b:Nat)(k:Bk)(o:Nat)(vs:List B):sto (hset h b k) b o vs=match bif k.pl then yH k.cells o vs else none with|some l=>some (hset (hset h b k) b ⟨l,k.opn⟩)|none=>none:=by unfold sto;rw[aA]
def aqt(h:Tr Bk)(b j:Nat)(k:Bk)(o:Nat)(vs:List B)(e:j≠b):sto (hset h b k) j o vs=match h j with|some k'=>(match bif k'.pl then yH k'.cells o vs else none with|some l=>some (hset (hset h b k) j ⟨l,k'.opn⟩)|none=>none)|none=>none:=by grind[sto,au]
def axE{α:Sort _}(a b:α):(bif true then a else b)=a:=rfl
def axF{α:Sort _}(a b:α):(bif false then a else b)=b:=rfl
theorem H7{a b:Nat}(h:a<b):Nat.blt a b=true:=fj h
theorem xH{a b:Nat}(h:a<=b):Nat.ble a b=true:=fj h
theorem abQ(a:Nat):Nat.beq a a=true:=by simp
theorem QY{a b:Nat}(h:a≠b):Nat.beq a b=false:=by grind[Nat.eq_of_beq_eq_true]
theorem Ug{n:Nat}(h:n<=9223372036854775807):mkI .i64 (.ofNat n)=some (.c (.int .i64 (.ofNat n))):=by grind[mkI,aoC,Ja,xH]
def add_ofNat(a b:Nat):(Int.ofNat a+Int.ofNat b)=Int.ofNat (a+b):=rfl
def aG(a b:Nat):decide (Int.ofNat a<Int.ofNat b)=decide (a<b):=by simp
def WF(σ:St):Prop:=∀b,σ.aj<=b->σ.h b=none
structure Fr(σ σ':St):Prop where
 le:σ.aj<=σ'.aj
 wf:WF σ'
 old:∀b,b<σ.aj->σ'.h b=σ.h b
theorem Fr.refl{σ:St}(h:WF σ):Fr σ σ:=⟨jp,h,λ_ _=>rfl⟩
def Fr.trans{σ σ' KD:St}(h:Fr σ σ')(h':Fr σ' KD):Fr σ KD:=⟨aw h.le h'.le,h'.wf,λb hb=>(h'.old b (aL hb h.le)).trans (h.old b hb)⟩
def WF.lt{σ:St}(h:WF σ){b:Nat}{k:Bk}(hb:σ.h b=some k):b<σ.aj:=by refine Nat.lt_of_not_le λe=>?_;rw[h b e]at hb;cases hb
def WF.dF{σ:St}(h:WF σ){b o n:Nat}{g:Bool}{v:V}(hb:ld σ.h b o n g=some v):b<σ.aj:=by
 unfold ld at hb;split at hb
 .next k hk=>exact h.lt hk
 grind
theorem Fr.ld{σ σ':St}(h:WF σ)(hf:Fr σ σ'){b o n:Nat}{g:Bool}{v:V}(hb:Xe.ld σ.h b o n g=some v):Xe.ld σ'.h b o n g=some v:=by have hlt:=h.dF hb;unfold Xe.ld at hb⊢;rw[hf.old b hlt];exact hb
def Fr.get{σ σ':St}(h:WF σ)(hf:Fr σ σ'){b:Nat}{k:Bk}(hb:σ.h b=some k):σ'.h b=some k:=by rw[hf.old b (h.lt hb)];exact hb
def Fr.new{σ σ':St}(hf:Fr σ σ')(k:Bk):Fr σ ⟨hset σ'.h σ'.aj k,σ'.aj+1⟩:=
 ⟨Nat.le_succ_of_le hf.le,λb hb=>by
  have hb:σ'.aj+1<=b:=hb;show hset σ'.h σ'.aj k b=none;rw[au _ _ _ _ jb];exact hf.wf b jb,λb hb=>by
  show hset σ'.h σ'.aj k b=_;have:=hf.le;rw[au _ _ _ _ jb];exact hf.old b hb⟩
def Fr.set{σ σ':St}(hf:Fr σ σ'){b:Nat}(hb:σ.aj<=b)(hb2:b<σ'.aj)(k:Bk):Fr σ ⟨hset σ'.h b k,σ'.aj⟩:=
 ⟨hf.le,λj hj=>by
  have hj:σ'.aj<=j:=hj;show hset σ'.h b k j=none;rw[au _ _ _ _ jb];exact hf.wf j hj,λj hj=>by
  show hset σ'.h b k j=_;rw[au _ _ _ _ jb];exact hf.old j hj⟩
def HL(h:Tr Bk)(e:Nat)(v:B)(n:Nat)(G:Nat->List B):Prop:=
 (n=0/\v=.aX)\/∃b o c,v=.sl b o n c/\∀i,i<n->ld h b (o+i*e) e true=some (.agg (G i))
def HC(h:Tr Bk)(v:B)(n:Nat)(G:Nat->B):Prop:=
 (n=0/\v=.aX)\/∃b o c,v=.sl b o n c/\∀i,i<n->ld h b (o+i*1) 1 false=some (.c (G i))
def lenV:V->Option V
 |.c (.sl _ _ n _)=>some (.c (.int .i64 (.ofNat n)))
 |.c .aX=>some (.c (.int .i64 (.ofNat 0)))
 |_=>none
def alu(b o n:Nat)(c:Cap):lenV (.c (.sl b o n c))=some (.c (.int .i64 (.ofNat n))):=rfl
def aeb:lenV (.c .aX)=some (.c (.int .i64 (.ofNat 0))):=rfl
def HL.len{h:Tr Bk}{e:Nat}{v:B}{n:Nat}{G:Nat->List B}(hl:HL h e v n G):lenV (.c v)=some (.c (.int .i64 (.ofNat n))):=by rcases hl with⟨rfl,rfl⟩|⟨b,o,c,rfl,-⟩<;>rfl
def HC.len{h:Tr Bk}{v:B}{n:Nat}{G:Nat->B}(hl:HC h v n G):lenV (.c v)=some (.c (.int .i64 (.ofNat n))):=by rcases hl with⟨rfl,rfl⟩|⟨b,o,c,rfl,-⟩<;>rfl
def HL.pos{h:Tr Bk}{e:Nat}{v:B}{n:Nat}{G:Nat->List B}(hl:HL h e v n G)(hn:0<n):∃b o c,v=.sl b o n c/\∀i,i<n->ld h b (o+i*e) e true=some (.agg (G i)):=by
 rcases hl with⟨rfl,-⟩|h
 .omega
 .exact h
def HC.pos{h:Tr Bk}{v:B}{n:Nat}{G:Nat->B}(hl:HC h v n G)(hn:0<n):∃b o c,v=.sl b o n c/\∀i,i<n->ld h b (o+i*1) 1 false=some (.c (G i)):=by
 rcases hl with⟨rfl,-⟩|h
 .omega
 .exact h
theorem HL.fr{σ σ':St}(hW:WF σ)(hf:Fr σ σ'){e:Nat}{v:B}{n:Nat}{G:Nat->List B}(hl:HL σ.h e v n G):HL σ'.h e v n G:=by
 rcases hl with h|⟨b,o,c,rfl,h⟩
 .exact .inl h
 .exact .inr ⟨b,o,c,rfl,λi hi=>hf.ld hW (h i hi)⟩
theorem HC.fr{σ σ':St}(hW:WF σ)(hf:Fr σ σ'){v:B}{n:Nat}{G:Nat->B}(hl:HC σ.h v n G):HC σ'.h v n G:=by
 rcases hl with h|⟨b,o,c,rfl,h⟩
 .exact .inl h
 .exact .inr ⟨b,o,c,rfl,λi hi=>hf.ld hW (h i hi)⟩
section
variable (E:Env)
def aec(tm:Tr V)(σ:St)(Q:Tr V->St->Prop):wpOps E [] tm σ Q=Q tm σ:=rfl
def wpOps_cons(o:AO)(r:List AO)(tm:Tr V)(σ:St)(Q:Tr V->St->Prop):wpOps E (o::r) tm σ Q=wpG E o tm σ λv σ'=>wpOps E r (EU tm o.dst v) σ' Q:=rfl
variable (tm:Tr V) (σ:St) (K:V→St→Prop)
def Gq(o:Option V)(K:V->Prop):Prop:=match o with|some v=>K v|none=>False
def agL(v:V)(K:V->Prop):Gq (some v) K=K v:=rfl
theorem iG{op:vZ}(h:op.kind=.q)(h2:∀g l,op≠.call g l):wpOp E op tm σ K=Gq (dN op tm σ) λv=>K v σ:=by unfold wpOp;grind[oV,Gq]
def aqu(c a b:O):wpOp E (.pick c a b) tm σ K=Gq (match c.ev tm with|.c (.bool t)=>some (bif t then a.ev tm else b.ev tm)|_=>none) λv=>K v σ:=iG _ _ _ _ rfl λ_ _ h=>by cases h
def o_load(n:Nat)(g:Bool)(x:O):wpOp E (.load n g x) tm σ K=Gq (match x.ev tm with|.c (.ptr b o)=>ld σ.h b o n g|_=>none) λv=>K v σ:=iG _ _ _ _ rfl λ_ _ h=>by cases h
def alv(off:Nat)(x:O):wpOp E (.CO off x) tm σ K=Gq (match x.ev tm with|.c (.ptr b o)=>some (.c (.ptr b (o+off)))|_=>none) λv=>K v σ:=by rw[iG _ _ _ _ (by rfl) λ_ _ h=>by cases h];grind[dN,ZC,sO]
def alx(off n:Nat)(g:Bool)(x:O):wpOp E (.field off n g x) tm σ K=Gq (match x.ev tm with|.agg l=>zQ l off n g|_=>none) λv=>K v σ:=iG _ _ _ _ rfl λ_ _ h=>by cases h
def iaV(e:Nat)(v:V)(i:V):Option V:=match v,J8 i with|.c (.sl b o n _),some j=>(bif Nat.blt j n then some (.c (.ptr b (o+j*e)))else none)|_,_=>none
def aly(e:Nat)(x i:O):wpOp E (.Fv e x i) tm σ K=Gq (iaV e (x.ev tm) (i.ev tm)) λv=>K v σ:=by rw[iG _ _ _ _ (by rfl) λ_ _ h=>by cases h];unfold dN ZE iaV;grind[sO]
def aqv(e b o n j:Nat)(c:Cap)(h:j<n):iaV e (.c (.sl b o n c)) (.c (.int .i64 (.ofNat j)))=some (.c (.ptr b (o+j*e))):=by simp_all[iaV,J8,H7]
def auG(i:Nat)(x:O):wpOp E (.ext i x) tm σ K=Gq (af6 i x tm) λv=>K v σ:=iG _ _ _ _ rfl λ_ _ h=>by cases h
def agM:Nat->V->Option V
 |0,.aV a _=>some a
 |1,.aV _ (.aV a _)=>some a
 |2,.aV _ (.aV _ (.aV a _))=>some a
 |_,_=>none
def aqw(i:Nat)(x:O)(tm:Tr V):af6 i x tm=agM i (x.ev tm):=by unfold af6 agM;grind
def aqx(a r:V):agM 0 (.aV a r)=some a:=rfl
def aqy(a b r:V):agM 1 (.aV a (.aV b r))=some b:=rfl
def aqz(a b c r:V):agM 2 (.aV a (.aV b (.aV c r)))=some c:=rfl
def auH(b:BinOp)(x y:O):wpOp E (.bin b x y) tm σ K=Gq (nN b (x.ev tm) (y.ev tm)) λv=>K v σ:=iG _ _ _ _ rfl λ_ _ h=>by cases h
def auI(a b:Int):nN .lss (.c (.int .i64 a)) (.c (.int .i64 b))=some (.c (.bool (decide (a<b)))):=rfl
def auJ(a b:Int):nN .gtr (.c (.int .i64 a)) (.c (.int .i64 b))=some (.c (.bool (decide (b<a)))):=rfl
def auK(a b:Int):nN .leq (.c (.int .i64 a)) (.c (.int .i64 b))=some (.c (.bool (decide (a<=b)))):=rfl
def auL(a b:Int):nN .geq (.c (.int .i64 a)) (.c (.int .i64 b))=some (.c (.bool (decide (b<=a)))):=rfl
def auM(a b:Int):nN .eql (.c (.int .i64 a)) (.c (.int .i64 b))=some (.c (.bool (decide (a=b)))):=rfl
def auN(a b:Int):nN .neq (.c (.int .i64 a)) (.c (.int .i64 b))=some (.c (.bool (!decide (a=b)))):=rfl
def aqA(a b:ByteArray):nN .eql (.c (.str a)) (.c (.str b))=some (.c (.bool (decide (a=b)))):=rfl
def aqB(a b:ByteArray):nN .neq (.c (.str a)) (.c (.str b))=some (.c (.bool (!decide (a=b)))):=rfl
def auO(a b:Nat)(h:a+b<=9223372036854775807):nN .add (.c (.int .i64 (.ofNat a))) (.c (.int .i64 (.ofNat b)))=some (.c (.int .i64 (.ofNat (a+b)))):=by show mkI .i64 (Int.ofNat a+Int.ofNat b)=_;rw[add_ofNat,Ug h]
def aoU(a b:Nat)(h:a<=9223372036854775807)(h2:b<=a):nN .sub (.c (.int .i64 (.ofNat a))) (.c (.int .i64 (.ofNat b)))=some (.c (.int .i64 (.ofNat (a-b)))):=by show mkI .i64 (Int.ofNat a-Int.ofNat b)=_;grind[Ug]
def auP(p:Bool)(x y:O):wpOp E (.eqb p x y) tm σ K=Gq (match x.ev tm,y.ev tm with|.c (.bool a),.c (.bool b)=>some (.c (.bool (p==(a==b))))|_,_=>none) λv=>K v σ:=iG _ _ _ _ rfl λ_ _ h=>by cases h
def alz(p:Bool)(x y:O):wpOp E (.Fz p x y) tm σ K=Gq (match x.ev tm,y.ev tm with|.agg l,.agg r=>(match eqB l r with|some b=>some (.c (.bool (p==b)))|none=>none)|_,_=>none) λv=>K v σ:=iG _ _ _ _ rfl λ_ _ h=>by cases h
def aqC(a b c d:Int):eqL [.int .i64 a,.int .i64 b] [.int .i64 c,.int .i64 d]=some (decide (a=c)&&decide (b=d)):=rfl
def alA(p q:Rat):eqB [.bool (rn p),.str (rs p),.str (rd p)] [.bool (rn q),.str (rs q),.str (rd q)]=some (decide (p=q)):=by grind[eqB,eqS,decide,Zl]
def auQ(k:Nat)(p:Bool)(v:V):Option V:=match k,v with
 |0,.c (.sl ..)=>some (.c (.bool (!p)))
 |0,.c .aX=>some (.c (.bool p))
 |1,.c (.ptr ..)=>some (.c (.bool (!p)))
 |1,.c .TJ=>some (.c (.bool p))
 |2,.fn ..=>some (.c (.bool (!p)))
 |2,.Nh=>some (.c (.bool p))
 |_,_=>none
def auR(k:Nat)(p:Bool)(x:O):wpOp E (.nil k p x) tm σ K=Gq (auQ k p (x.ev tm)) λv=>K v σ:=iG _ _ _ _ rfl λ_ _ h=>by cases h
def auS(x:O):wpOp E (.not x) tm σ K=Gq (match x.ev tm with|.c (.bool b)=>some (.c (.bool !b))|_=>none) λv=>K v σ:=iG _ _ _ _ rfl λ_ _ h=>by cases h
def alB(z:List B)(ps:List (Nat×Nat×O)):wpOp E (.build z ps) tm σ K=Gq (match CP z (ps.map λp=>(p.1,p.2.1,p.2.2.ev tm))with|some l=>some (.agg l)|none=>none) λv=>K v σ:=iG _ _ _ _ rfl λ_ _ h=>by cases h
def aqD(f:Nat)(cs:List O):wpOp E (.P7 f cs) tm σ K=Gq (match ZB tm cs with|some l=>some (.fn f l)|none=>none) λv=>K v σ:=iG _ _ _ _ rfl λ_ _ h=>by cases h
def auT(x:O):wpOp E (.len x) tm σ K=Gq (lenV (x.ev tm)) λv=>K v σ:=iG _ _ _ _ rfl λ_ _ h=>by cases h
def aqE(x:O):wpOp E (.P8 x) tm σ K=Gq (match x.ev tm with|.c (.ptr b o)=>some (.c (.ptr b o))|.fn f l=>some (.fn f l)|_=>none) λv=>K v σ:=iG _ _ _ _ rfl λ_ _ h=>by cases h
def alC(z:List B):wpOp E (.alloc z) tm σ K=K (.c (.ptr σ.aj 0)) ⟨hset σ.h σ.aj ⟨z,none⟩,σ.aj+1⟩:=by rfl
def auU(x:O):wpOp E (.box x) tm σ K=match(x.ev tm).cells with|some l=>K (.c (.ptr σ.aj 0)) ⟨hset σ.h σ.aj ⟨l,none⟩,σ.aj+1⟩|none=>False:=by grind[wpOp,oV,vZ.kind,nO,kL]
def aqF(bytes:Nat)(z:List B)(l c:O):wpOp E (.Kz bytes z l c) tm σ K=match J8 (l.ev tm),J8 (c.ev tm)with
  |some n,some m=>(bif Nat.ble n m&&(Nat.ble (bytes*m) 281474976710656&&Nat.ble m 1073741824)then K (.c (.sl σ.aj 0 n (.ex m))) ⟨hset σ.h σ.aj ⟨rep z m,none⟩,σ.aj+1⟩else False)
  |_,_=>False:=by
 grind[wpOp,oV,vZ.kind,nO,kL]
def auV(e n:Nat)(z:List B)(ps:List (Nat×Nat×O))(h:n*e<=16777216)(h':n<=16777216):wpOp E (.bsl e n z ps) tm σ K=match CP (rep z n) (ps.map λp=>(p.1,p.2.1,p.2.2.ev tm))with
  |some l=>K (.c (.sl σ.aj 0 n (.ex n))) ⟨hset σ.h σ.aj ⟨l,none⟩,σ.aj+1⟩|none=>False:=by
 grind[wpOp,oV,vZ.kind,nO,kL,xH]
def alD(n:Nat)(a x:O):wpOp E (.store n a x) tm σ K=match a.ev tm,(x.ev tm).cells with
  |.c (.ptr b o),some vs=>(bif Nat.beq vs.length n then(match sto σ.h b o vs with|some h=>K .und ⟨h,σ.aj⟩|none=>False)else False)
  |_,_=>False:=by
 grind[wpOp,oV,vZ.kind,aea]
def aqG(g:O)(args:List O):wpOp E (.call g args) tm σ K=match g.ev tm with|.fn f caps=>aC E f (args.map (·.ev tm)++caps.map .c) σ K|_=>False:=rfl
end
end Go.Proofs.Xe
end
