import Derived.Test.YtchhojplceoifaaGreatDoorYf9
set_option linter.all false
set_option maxRecDepth 100000
noncomputable section
namespace Go.Proofs.Xe
open Go.RowKit Go.Proofs.Ins
def szK:Nat:=60000000
def Sz(q:Rat):Prop:=Sm szK q
def EW(a:Nat):Prop:=(bn a).size<=60000000
def rV(q:Rat):V:=.agg [.bool (rn q),.str (rs q),.str (rd q)]
def rbV(q:Rat)(b:Bool):V:=.aZ (rV q) (.aZ (.c (.bool b)) .tnil)
def iV(i:Int):V:=.c (.int .i64 i)
def Sz.sizes{p:Rat}(h:Sz p):(rs p).size<=60000000/\(rd p).size<=60000000:=⟨Sm.rs h,Sm.rd h⟩
def aA1(a b:Nat):Rat:=((Int.ofNat a:Int):Rat)/((Int.ofNat b:Int):Rat)
def aaf{a b:Nat}(h:bn a=bn b):a=b:=by rw[<-iy a,<-iy b,h]
abbrev kb(b:Bool):O:=.k (.c (.bool b))
abbrev d(n:Nat):Option Nat:=some n
abbrev s0:B:=.str ⟨#[]⟩
abbrev i0:B:=.int .i64 (.ofNat 0)
def QS(c:Bool)(R:Rat->Rat->V):List V->Option V
 |[.agg [.bool n,.str s,.str d],.agg [.bool m,.str t,.str e]]=>if(s.size+d.size<=130000000/\t.size+e.size<=130000000)/\(c=true->QY n s d/\QY m t e)then some (R (rq n s d) (rq m t e))else none
 |_=>none
def Z7(c:Bool)(R:Rat->V):List V->Option V
 |[.agg [.bool n,.str s,.str d]]=>if s.size+d.size<=130000000/\(c=true->QY n s d)then some (R (rq n s d))else none
 |_=>none
def kVd:List V->Option V
 |[.agg [.bool n,.str s,.str d]]=>if s.size+d.size<=130000000 then some (.c (.bool (decide (QY n s d))))else none
 |_=>none
def kN1(R:Nat->V):List V->Option V
 |[.c (.str s)]=>if s.size<=1073741824 then some (R (nv s))else none
 |_=>none
def Z8(R:Nat->Nat->Option V):List V->Option V
 |[.c (.str s),.c (.str t)]=>if s.size<=1073741824/\t.size<=1073741824 then R (nv s) (nv t)else none
 |_=>none
def kB3(R:Bool->Nat->Nat->Option V):List V->Option V
 |[.c (.bool n),.c (.str s),.c (.str t)]=>if s.size<=1073741824/\t.size<=1073741824 then R n (nv s) (nv t)else none
 |_=>none
def kI(k:IntKind)(l h:Int)(R:Int->V):List V->Option V
 |[.c (.int j i)]=>if j=k/\l<=i/\i<=h then some (R i)else none
 |_=>none
def kQ(R:Int->Int->V):List V->Option V
 |[.c (.int j i),.c (.int k m)]=>if(j=.i64/\0<=i/\i<23)/\k=.i64/\0<m/\(m<7\/m=8)then some (R i m)else none
 |_=>none
def DK(c:Bool)(R:Rat->Rat->V){p q:Rat}(hp:Sz p)(hq:Sz q):QS c R [rV p,rV q]=some (R p q):=by unfold QS rV;have:=hp.sizes;have:=hq.sizes;simp only;rw[ae ⟨jb,λ_=>⟨Dk p,Dk q⟩⟩,FZ,FZ]
def aaP(c:Bool)(R:Rat->V){p:Rat}(hp:Sz p):Z7 c R [rV p]=some (R p):=by unfold Z7 rV;have:=hp.sizes;simp only;rw[ae ⟨jb,λ_=>Dk p⟩,FZ]
def arv{p:Rat}(hp:Sz p):kVd [rV p]=some (.c (.bool true)):=by unfold kVd rV;have:=hp.sizes;simp only;rw[ae jb,be (Dk p)]
def OI(R:Nat->Nat->Option V){a b:Nat}{v:V}(ha:EW a)(hb:EW b)(h:R a b=some v):Z8 R [.c (.str (bn a)),.c (.str (bn b))]=some v:=by unfold Z8 EW at*;simp only;rw[ae jb,iy,iy,h]
def arw(R:Bool->Nat->Nat->Option V){n:Bool}{a b:Nat}{v:V}(ha:EW a)(hb:EW b)(h:R n a b=some v):kB3 R [.c (.bool n),.c (.str (bn a)),.c (.str (bn b))]=some v:=by unfold kB3 EW at*;simp only;rw[ae jb,iy,iy,h]
noncomputable section
def jO(f:Nat):List V->Option V:=
 bif Nat.beq f 114 then(kN1 λa=>.c (.str (bn a)))else
 bif Nat.beq f 61 then(Z8 λa b=>some (iV (rU a b)))else
 bif Nat.beq f 111 then(Z8 λa b=>some (.c (.str (bn (a+b)))))else
 bif Nat.beq f 62 then(Z8 λa b=>some (.c (.str (bn (a*b)))))else
 bif Nat.beq f 119 then(Z8 λa b=>some (.c (.str (bn (Nat.gcd a b)))))else
 bif Nat.beq f 112 then(Z8 λa b=>some (if b<=a then .aZ (.c (.str (bn (a-b)))) (.aZ (.c (.bool true)) .tnil)else .aZ (.c (.str ⟨#[]⟩)) (.aZ (.c (.bool false)) .tnil)))else
 bif Nat.beq f 120 then(Z8 λa b=>if 0<b then some (.aZ (.c (.str (bn (a/b)))) (.aZ (.c (.str (bn (a%b)))) (.aZ (.c (.bool true)) .tnil)))else none)else
 bif Nat.beq f 121 then(kI .u64 0 18446744073709551615 λi=>.c (.str (bn i.toNat)))else
 bif Nat.beq f 66 then(kI .i64 0 100 λi=>rV i)else
 bif Nat.beq f 23 then(kQ λi j=>rV ((i:Rat)/(j:Rat)))else
 bif Nat.beq f 21 then(kI .u16 0 65535 λi=>rV (amt i.toNat))else
 bif Nat.beq f 63 then(Z7 true λp=>.c (.str (bn p.den)))else
 bif Nat.beq f 113 then kVd else
 bif Nat.beq f 59 then(Z7 false λp=>rV p)else
 bif Nat.beq f 64 then(kB3 λn a b=>if 0<b then some (rV (fr n a b))else none)else
 bif Nat.beq f 196 then(kB3 λn a b=>some (if b=0 then rbV 0 false else rbV (fr n a b) true))else
 bif Nat.beq f 65 then(kI .i64 (-9223372036854775808) 9223372036854775807 λi=>.c (.str (bn i.natAbs)))else
 bif Nat.beq f 19 then(kI .i64 (-9223372036854775808) 9223372036854775807 λi=>rV i)else
 bif Nat.beq f 60 then(Z7 true λp=>iV (sg p))else
 bif Nat.beq f 20 then(Z7 false λp=>iV (sg p))else
 bif Nat.beq f 68 then(Z7 true λp=>rV (-p))else
 bif Nat.beq f 58 then(QS true λp q=>rV (p+q))else
 bif Nat.beq f 17 then(QS false λp q=>rV (p+q))else
 bif Nat.beq f 24 then(QS false λp q=>rV (p-q))else
 bif Nat.beq f 25 then(QS false λp q=>rV (p*q))else
 bif Nat.beq f 157 then(QS false λp q=>rbV (IG p q) (okR q))else
 bif Nat.beq f 18 then(QS false λp q=>iV (pI p q))else
 bif Nat.beq f 184 then(QS false λp q=>rV (JM p q))else
 bif Nat.beq f 91 then(QS false λp q=>rV (vY p q))else
 λ_=>none
end
class jP (E:Env) (f:Nat):Prop where
 o:∀args v σ,jO f args=some v->E.Xn f args σ=some (v,σ)
def ahL{E:Env}{f:Nat}{args:List V}{v:V}{σ σ2:St}{K:V->St->Prop}(h:E.Xn f args σ=some (v,σ2)):aC E f args σ K=K v σ2:=by
 refine propext ⟨λ⟨n,v',σ',h1,h2⟩=>?_,λhk=>XO h hk⟩;have h3:jd E 1 f args σ=some (v,σ2):=by rw[jd];unfold Iq;rw[h]
 have a:=oD (show n<=n+1 by omega) f args σ _ h1;have b:=oD (show 1<=n+1 by omega) f args σ _ h3;rw[a]at b;cases b;exact h2
def aT{E:Env}{f:Nat}[hE:jP E f]{args:List V}{v:V}{σ:St}{K:V->St->Prop}(h:jO f args=some v):aC E f args σ K=K v σ:=ahL (hE.o args v σ h)
def OJ(P:Program)(f:Nat):Bool:=match P.funcs[f]? with|some fn=> !fn.body.isNone&& !(fn.name== "runtime.NumGoroutine")|none=>false
def zY{P:Program}{f:Nat}(h:OJ P f=true):okF P f:=by
 unfold OJ at h;split at h
 .next fn hfn=>
  simp only[af,ii]at h;exact⟨fn,hfn,h.1,h.2⟩
 .cases h
def Ct(P:Program)(f:Nat)(v:V)(bP:Array Value)(w:World):Prop:=
 Calls P f bP w λe w'=>∃cv,e=.returned cv/\Below w.heap.size w w'/\∀φ',RV φ' v cv
class Au (f:Nat):Prop where
 k:okF Tryz.prog f
 c:∀args v,jO f args=some v->∀(φ:Ph) (bP:Array Value) (w:World),Ir φ args bP.toList->Ct Tryz.prog f v bP w
class OkL (l:List Nat):Prop where
 o:∀f,l.contains f=true->Au f
class Mm (f:Nat) (l:List Nat):Prop where
 h:l.contains f=true
instance:OkL []:=⟨nofun⟩
instance {f:Nat}{l:List Nat} [h:Au f] [hl:OkL l]:OkL (f::l):=⟨λg hg=>by
 rw[List.contains_cons,Bool.or_eq_true]at hg;rcases hg with hg|hg
 .rw[eq_of_beq hg];exact h
 .exact hl.o g hg⟩
instance {f:Nat}{l:List Nat}:Mm f (f::l):=⟨by simp⟩
instance {f g:Nat}{l:List Nat} [h:Mm f l]:Mm f (g::l):=⟨by simpa using .inr (by simpa using h.h)⟩
def Eb(l:List Nat):Env:=⟨tF Tryz.prog,λf args σ=>bif l.contains f then(match jO f args with|some v=>some (v,σ)|none=>none)else none⟩
instance {f:Nat}{l:List Nat} [h:Mm f l]:jP (Eb l) f:=⟨λargs v σ hv=>by unfold Eb;dsimp only;rw[h.h,hv];rfl⟩
def Au.Xn{f:Nat}(h:Au f){args:List V}{σ σ':St}{v:V}(ho:(match jO f args with|some v=>some (v,σ)|none=>none)=some (v,σ')):okF Tryz.prog f/\∀(N:Nat) (w0:World) (φ:Ph) (w:World) (bP:Array Value),Rel N w0 φ σ w->Ir φ args bP.toList->
  Calls Tryz.prog f bP w λe w'=>∃cv,e=.returned cv/\∃φ',Ext σ.aj φ φ'/\Rel N w0 φ' σ' w'/\RV φ' v cv/\σ.aj<=σ'.aj:=by
 split at ho
 .next u hu=>
  cases ho
  refine⟨h.k,λN w0 φ w bP hR ha=>(h.c _ _ hu φ bP w ha).mono λe w' he=>?_⟩
  obtain⟨cv,rfl,hb,hv⟩:=he
  exact⟨cv,rfl,φ,Ext.refl _ _,hR.below hb,hv φ,jp⟩
 .cases ho
def SX{l:List Nat}[h:OkL l]:OC Tryz.prog (Eb l):=by
 refine⟨λf F h=>ahF h,λf args σ v σ' ho=>?_⟩;unfold Eb at ho;dsimp only at ho;cases hc:l.contains f with
 |false=>rw[hc]at ho;cases ho
 |true=>rw[hc]at ho;exact(h.o f hc).Xn ho
def fB:B->Bool
 |.int ..|.bool _|.str _=>true
 |_=>false
def fV:V->Bool
 |.c x=>fB x
 |.agg l=>l.all fB
 |.aZ a r=>fV a&&fV r
 |.tnil=>true
 |_=>false
section
variable {φ φ' : Ph}
def RB.flat{x:B}{v:Value}(h:fB x=true)(hv:RB φ x v):RB φ' x v:=by cases x<;>first|exact hv|cases h
def lU.flat:∀{l:List B}{r:List Value},l.all fB=true->lU φ l r->lU φ' l r
 |[],[],_,_=>trivial
 |_::_,_::_,h,hv=>by rw[cD,af]at h;exact⟨hv.1.flat h.1,lU.flat h.2 hv.2⟩
 |[],_::_,_,hv=>hv.elim
 |_::_,[],_,hv=>hv.elim
def RV.flat:∀{x:V}{v:Value},fV x=true->RV φ x v->RV φ' x v
 |.c _,_,h,hv=>RB.flat h hv
 |.agg _,_,h,⟨r,e,hr⟩=>⟨r,e,hr.flat h⟩
 |.aZ _ _,_,h,⟨x,xs,e,h1,h2⟩=>by unfold fV at h;rw[af]at h;exact⟨x,xs,e,h1.flat h.1,h2.flat h.2⟩
 |.tnil,_,_,hv=>hv
def Ir.flat:∀{l:List V}{r:List Value},l.all fV=true->Ir φ l r->Ir φ' l r
 |[],[],_,_=>trivial
 |_::_,_::_,h,hv=>by rw[cD,af]at h;exact⟨hv.1.flat h.1,Ir.flat h.2 hv.2⟩
 |[],_::_,_,hv=>hv.elim
 |_::_,[],_,hv=>hv.elim
end
def azd(w:World):Rel w.heap.size w (λ_=>none) ⟨.leaf,0⟩ w:=
 ⟨jp,Below.refl _ _,nofun,nofun,nofun,nofun,λb _=>⟨rfl,Tr.N9 b⟩⟩
def Gz{E:Env}(hE:OC Tryz.prog E){f:Nat}{args:List V}{v:V}(ha:args.all fV=true)(hv:fV v=true)(h:aC E f args ⟨.leaf,0⟩ λr _=>r=v)(φ:Ph)(bP:Array Value)(w:World)(hr:Ir φ args bP.toList):Ct Tryz.prog f v bP w:=by obtain⟨n,r,σ',h1,rfl⟩:=h;refine(SV hE (by kernel_rfl) h1 (azd w) (hr.flat ha)).mono λe w' he=>?_;obtain⟨cv,rfl,φ',-,hR,hc,-⟩:=he;exact⟨cv,rfl,hR.bel,λφ=>hc.flat hv⟩
structure SY(k:Nat) where
 a:AF
 g:tG Tryz.prog k=some a:=by conv=>(lhs;reduce;simp only[aqb,avO])
 i:XE Tryz.prog k a=true:=by kernel_rfl
def rY{f:Nat}{l:List Nat}(b:SY f)(hl:l.contains f=false){args:List V}{σ:St}{K:V->St->Prop}(h:bM (Eb l) b.a.body (ini args) σ (aaN b.a.res K)):aC (Eb l) f args σ K:=
 aO (by unfold Eb;dsimp only;rw[hl];rfl) (aqa b.g b.i) h
section
variable {E:Env} {σ:St} {K:V→St→Prop}
def wU:jO 114=kN1 (λa=>.c (.str (bn a))):=rfl
def zy:jO 61=Z8 (λa b=>some (iV (rU a b))):=rfl
def zZ:jO 111=Z8 (λa b=>some (.c (.str (bn (a+b))))):=rfl
def arx[jP E 111](a b:Nat)(h1:EW a)(h2:EW b):aC E 111 [.c (.str (bn a)),.c (.str (bn b))] σ K=K (.c (.str (bn (a+b)))) σ:=aT ((bX zZ _).trans (OI _ h1 h2 (by first|rfl|simp)))
def qH:jO 62=Z8 (λa b=>some (.c (.str (bn (a*b))))):=rfl
def XQ[jP E 62](a b:Nat)(h1:EW a)(h2:EW b):aC E 62 [.c (.str (bn a)),.c (.str (bn b))] σ K=K (.c (.str (bn (a*b)))) σ:=aT ((bX qH _).trans (OI _ h1 h2 (by first|rfl|simp)))
def Aa:jO 119=Z8 (λa b=>some (.c (.str (bn (Nat.gcd a b))))):=rfl
def arz[jP E 119](a b:Nat)(h1:EW a)(h2:EW b):aC E 119 [.c (.str (bn a)),.c (.str (bn b))] σ K=K (.c (.str (bn (Nat.gcd a b)))) σ:=aT ((bX Aa _).trans (OI _ h1 h2 (by first|rfl|simp)))
def qI:jO 112=Z8 (λa b=>some (if b<=a then .aZ (.c (.str (bn (a-b)))) (.aZ (.c (.bool true)) .tnil)else .aZ (.c (.str ⟨#[]⟩)) (.aZ (.c (.bool false)) .tnil))):=rfl
def XR[jP E 112](a b:Nat)(h1:EW a)(h2:EW b):aC E 112 [.c (.str (bn a)),.c (.str (bn b))] σ K=K (if b<=a then .aZ (.c (.str (bn (a-b)))) (.aZ (.c (.bool true)) .tnil)else .aZ (.c (.str ⟨#[]⟩)) (.aZ (.c (.bool false)) .tnil)) σ:=aT ((bX qI _).trans (OI _ h1 h2 (by first|rfl|simp)))
def uG:jO 120=Z8 (λa b=>if 0<b then some (.aZ (.c (.str (bn (a/b)))) (.aZ (.c (.str (bn (a%b)))) (.aZ (.c (.bool true)) .tnil)))else none):=rfl
def aeX[jP E 120](a b:Nat)(h1:EW a)(h2:EW b)(h0:0<b):aC E 120 [.c (.str (bn a)),.c (.str (bn b))] σ K=K (.aZ (.c (.str (bn (a/b)))) (.aZ (.c (.str (bn (a%b)))) (.aZ (.c (.bool true)) .tnil))) σ:=aT ((bX uG _).trans (OI _ h1 h2 (ae h0)))
def qJ:jO 121=kI .u64 0 18446744073709551615 (λi=>.c (.str (bn i.toNat))):=rfl
def XT[jP E 121](x:Nat)(h1:x<18446744073709551616):aC E 121 [.c (.int .u64 (.ofNat x))] σ K=K (.c (.str (bn x))) σ:=aT ((bX qJ _).trans (ae ⟨rfl,by simp,by simp only[dY];omega⟩))
def II:jO 66=kI .i64 0 100 (λi=>rV i):=rfl
def XU[jP E 66](x:Nat)(h1:x<=100):aC E 66 [jN x] σ K=K (.agg [.bool (rn ((Int.ofNat x:Int):Rat)),.str (rs ((Int.ofNat x:Int):Rat)),.str (rd ((Int.ofNat x:Int):Rat))]) σ:=aT ((bX II _).trans (ae ⟨rfl,by simp,by simp only[dY];omega⟩))
def U8:jO 23=kQ (λi j=>rV ((i:Rat)/(j:Rat))):=rfl
def Gg:jO 21=kI .u16 0 65535 (λi=>rV (amt i.toNat)):=rfl
def aeY[jP E 21](x:Nat)(h1:x<=65535):aC E 21 [.c (.int .u16 (.ofNat x))] σ K=K (.agg [.bool (rn (amt x)),.str (rs (amt x)),.str (rd (amt x))]) σ:=aT ((bX Gg _).trans (ae ⟨rfl,by simp,by simp only[dY];omega⟩))
def fE:jO 63=Z7 true (λp=>.c (.str (bn p.den))):=rfl
def uH:jO 113=kVd:=rfl
def acO[jP E 113](p:Rat)(hp:Sz p):aC E 113 [.agg [.bool (rn p),.str (rs p),.str (rd p)]] σ K=K (.c (.bool true)) σ:=aT ((bX uH _).trans (arv hp))
def oM:jO 59=Z7 false (λp=>rV p):=rfl
def amA[jP E 59](p:Rat)(hp:Sz p):aC E 59 [.agg [.bool (rn p),.str (rs p),.str (rd p)]] σ K=K (.agg [.bool (rn p),.str (rs p),.str (rd p)]) σ:=aT ((bX oM _).trans (aaP _ _ hp))
def XV[jP E 59](n:Bool)(s d:ByteArray)(h1:s.size+d.size<=130000000):aC E 59 [.agg [.bool n,.str s,.str d]] σ K=K (.agg [.bool (rn (rq n s d)),.str (rs (rq n s d)),.str (rd (rq n s d))]) σ:=aT ((bX oM _).trans (ae ⟨h1,nofun⟩))
def x9:jO 64=kB3 (λn a b=>if 0<b then some (rV (fr n a b))else none):=rfl
def vZ:jO 196=kB3 (λn a b=>some (if b=0 then rbV 0 false else rbV (fr n a b) true)):=rfl
def arA[jP E 196](n:Bool)(a b:Nat)(h1:EW a)(h2:EW b)(h0:0<b):aC E 196 [.c (.bool n),.c (.str (bn a)),.c (.str (bn b))] σ K=K (.aZ (.agg [.bool (rn (fr n a b)),.str (rs (fr n a b)),.str (rd (fr n a b))]) (.aZ (.c (.bool true)) .tnil)) σ:=aT ((bX vZ _).trans (arw _ h1 h2 (by rw[ab jb];rfl)))
def vO:jO 65=kI .i64 (-9223372036854775808) 9223372036854775807 (λi=>.c (.str (bn i.natAbs))):=rfl
def DL:jO 19=kI .i64 (-9223372036854775808) 9223372036854775807 (λi=>rV i):=rfl
def avP[jP E 19](i:Int)(h1: -9223372036854775808<=i)(h2:i<=9223372036854775807):aC E 19 [.c (.int .i64 i)] σ K=K (.agg [.bool (rn i),.str (rs i),.str (rd i)]) σ:=aT ((bX DL _).trans (ae ⟨rfl,h1,h2⟩))
def jZ:jO 60=Z7 true (λp=>iV (sg p)):=rfl
def wu:jO 20=Z7 false (λp=>iV (sg p)):=rfl
def arB[jP E 20](p:Rat)(hp:Sz p):aC E 20 [.agg [.bool (rn p),.str (rs p),.str (rd p)]] σ K=K (.c (.int .i64 (sg p))) σ:=aT ((bX wu _).trans (aaP _ _ hp))
def amB[jP E 20](n:Bool)(s d:ByteArray)(h1:s.size+d.size<=130000000):aC E 20 [.agg [.bool n,.str s,.str d]] σ K=K (.c (.int .i64 (sg (rq n s d)))) σ:=aT ((bX wu _).trans (ae ⟨h1,nofun⟩))
def rZ:jO 68=Z7 true (λp=>rV (-p)):=rfl
def ahM[jP E 68](p:Rat)(hp:Sz p):aC E 68 [.agg [.bool (rn p),.str (rs p),.str (rd p)]] σ K=K (.agg [.bool (rn (-p)),.str (rs (-p)),.str (rd (-p))]) σ:=aT ((bX rZ _).trans (aaP _ _ hp))
def su:jO 58=QS true (λp q=>rV (p+q)):=rfl
def avQ[jP E 58](p q:Rat)(hp:Sz p)(hq:Sz q):aC E 58 [.agg [.bool (rn p),.str (rs p),.str (rd p)],.agg [.bool (rn q),.str (rs q),.str (rd q)]] σ K=K (.agg [.bool (rn (p+q)),.str (rs (p+q)),.str (rd (p+q))]) σ:=aT ((bX su _).trans (DK _ _ hp hq))
def yc:jO 17=QS false (λp q=>rV (p+q)):=rfl
def avR[jP E 17](p q:Rat)(hp:Sz p)(hq:Sz q):aC E 17 [.agg [.bool (rn p),.str (rs p),.str (rd p)],.agg [.bool (rn q),.str (rs q),.str (rd q)]] σ K=K (.agg [.bool (rn (p+q)),.str (rs (p+q)),.str (rd (p+q))]) σ:=aT ((bX yc _).trans (DK _ _ hp hq))
def arC[jP E 17](n m:Bool)(s d t e:ByteArray)(h1:s.size+d.size<=130000000)(h2:t.size+e.size<=130000000):aC E 17 [.agg [.bool n,.str s,.str d],.agg [.bool m,.str t,.str e]] σ K=K (.agg [.bool (rn ((rq n s d)+(rq m t e))),.str (rs ((rq n s d)+(rq m t e))),.str (rd ((rq n s d)+(rq m t e)))]) σ:=aT ((bX yc _).trans (ae ⟨⟨h1,h2⟩,nofun⟩))
def pJ:jO 24=QS false (λp q=>rV (p-q)):=rfl
def aaQ[jP E 24](p q:Rat)(hp:Sz p)(hq:Sz q):aC E 24 [.agg [.bool (rn p),.str (rs p),.str (rd p)],.agg [.bool (rn q),.str (rs q),.str (rd q)]] σ K=K (.agg [.bool (rn (p-q)),.str (rs (p-q)),.str (rd (p-q))]) σ:=aT ((bX pJ _).trans (DK _ _ hp hq))
def XW[jP E 24](n m:Bool)(s d t e:ByteArray)(h1:s.size+d.size<=130000000)(h2:t.size+e.size<=130000000):aC E 24 [.agg [.bool n,.str s,.str d],.agg [.bool m,.str t,.str e]] σ K=K (.agg [.bool (rn ((rq n s d)-(rq m t e))),.str (rs ((rq n s d)-(rq m t e))),.str (rd ((rq n s d)-(rq m t e)))]) σ:=aT ((bX pJ _).trans (ae ⟨⟨h1,h2⟩,nofun⟩))
def wV:jO 25=QS false (λp q=>rV (p*q)):=rfl
def aaR[jP E 25](p q:Rat)(hp:Sz p)(hq:Sz q):aC E 25 [.agg [.bool (rn p),.str (rs p),.str (rd p)],.agg [.bool (rn q),.str (rs q),.str (rd q)]] σ K=K (.agg [.bool (rn (p*q)),.str (rs (p*q)),.str (rd (p*q))]) σ:=aT ((bX wV _).trans (DK _ _ hp hq))
def zC:jO 157=QS false (λp q=>rbV (IG p q) (okR q)):=rfl
def ahN[jP E 157](p q:Rat)(hp:Sz p)(hq:Sz q):aC E 157 [.agg [.bool (rn p),.str (rs p),.str (rd p)],.agg [.bool (rn q),.str (rs q),.str (rd q)]] σ K=K (.aZ (.agg [.bool (rn (IG p q)),.str (rs (IG p q)),.str (rd (IG p q))]) (.aZ (.c (.bool (okR q))) .tnil)) σ:=aT ((bX zC _).trans (DK _ _ hp hq))
def jv:jO 18=QS false (λp q=>iV (pI p q)):=rfl
def aeZ[jP E 18](p q:Rat)(hp:Sz p)(hq:Sz q):aC E 18 [.agg [.bool (rn p),.str (rs p),.str (rd p)],.agg [.bool (rn q),.str (rs q),.str (rd q)]] σ K=K (.c (.int .i64 (pI p q))) σ:=aT ((bX jv _).trans (DK _ _ hp hq))
def aaS[jP E 18](n m:Bool)(s d t e:ByteArray)(h1:s.size+d.size<=130000000)(h2:t.size+e.size<=130000000):aC E 18 [.agg [.bool n,.str s,.str d],.agg [.bool m,.str t,.str e]] σ K=K (.c (.int .i64 (pI (rq n s d) (rq m t e)))) σ:=aT ((bX jv _).trans (ae ⟨⟨h1,h2⟩,nofun⟩))
def yg:jO 184=QS false (λp q=>rV (JM p q)):=rfl
def avS[jP E 184](p q:Rat)(hp:Sz p)(hq:Sz q):aC E 184 [.agg [.bool (rn p),.str (rs p),.str (rd p)],.agg [.bool (rn q),.str (rs q),.str (rd q)]] σ K=K (.agg [.bool (rn (JM p q)),.str (rs (JM p q)),.str (rd (JM p q))]) σ:=aT ((bX yg _).trans (DK _ _ hp hq))
def arD[jP E 184](n m:Bool)(s d t e:ByteArray)(h1:s.size+d.size<=130000000)(h2:t.size+e.size<=130000000):aC E 184 [.agg [.bool n,.str s,.str d],.agg [.bool m,.str t,.str e]] σ K=K (.agg [.bool (rn (JM (rq n s d) (rq m t e))),.str (rs (JM (rq n s d) (rq m t e))),.str (rd (JM (rq n s d) (rq m t e)))]) σ:=aT ((bX yg _).trans (ae ⟨⟨h1,h2⟩,nofun⟩))
def yh:jO 91=QS false (λp q=>rV (vY p q)):=rfl
def avT[jP E 91](p q:Rat)(hp:Sz p)(hq:Sz q):aC E 91 [.agg [.bool (rn p),.str (rs p),.str (rd p)],.agg [.bool (rn q),.str (rs q),.str (rd q)]] σ K=K (.agg [.bool (rn (vY p q)),.str (rs (vY p q)),.str (rd (vY p q))]) σ:=aT ((bX yh _).trans (DK _ _ hp hq))
def arE[jP E 91](n m:Bool)(s d t e:ByteArray)(h1:s.size+d.size<=130000000)(h2:t.size+e.size<=130000000):aC E 91 [.agg [.bool n,.str s,.str d],.agg [.bool m,.str t,.str e]] σ K=K (.agg [.bool (rn (vY (rq n s d) (rq m t e))),.str (rs (vY (rq n s d) (rq m t e))),.str (rd (vY (rq n s d) (rq m t e)))]) σ:=aT ((bX yh _).trans (ae ⟨⟨h1,h2⟩,nofun⟩))
end
end Go.Proofs.Xe
namespace Go.Proofs.Xe
open Go.RowKit Go.Proofs.Ins
def ae0(tm:Tr V)(d:Nat)(v:V):Tr.ah (FP tm (some d) v) d=v:=by grind[Tr.ah,FP,Tr.vg]
def amC(tm:Tr V)(d j:Nat)(v:V)(h:j≠d):Tr.ah (FP tm (some d) v) j=Tr.ah tm j:=by grind[Tr.ah,FP,Tr.vg]
def ae1(tm:Tr V)(v:V):FP tm none v=tm:=rfl
def ae2(a:V)(l:List V):Tr.ah (ini (a::l)) 0=a:=by grind[Tr.ah,BL]
def ae3(a b:V)(l:List V):Tr.ah (ini (a::b::l)) 1=b:=by grind[Tr.ah,BL]
def ae4(a b c:V)(l:List V):Tr.ah (ini (a::b::c::l)) 2=c:=by grind[Tr.ah,BL]
def ae5(a b c d:V)(l:List V):Tr.ah (ini (a::b::c::d::l)) 3=d:=by grind[Tr.ah,BL]
def ae6(a b c d e:V)(l:List V):Tr.ah (ini (a::b::c::d::e::l)) 4=e:=by grind[Tr.ah,BL]
def ae7(a b c d e f:V)(l:List V):Tr.ah (ini (a::b::c::d::e::f::l)) 5=f:=by grind[Tr.ah,BL]
def ae8(a b c d e f g:V)(l:List V):Tr.ah (ini (a::b::c::d::e::f::g::l)) 6=g:=by simp_all[Tr.ah,BL]
def aze(tm:Tr V)(i:Nat):O.ev tm (.t i)=Tr.ah tm i:=rfl
def azf(tm:Tr V)(v:V):O.ev tm (.k v)=v:=rfl
def z3(l:List B):(B.bool false::s0::s0::l)=(.bool (rn 0):: .str (rs 0):: .str (rd 0)::l):=rfl
def hset(h:Tr Bk)(b:Nat)(k:Bk):Tr Bk:=h.set b (some k)
theorem aA(h:Tr Bk)(b:Nat)(k:Bk):hset h b k b=some k:=by grind[hset,Tr.vg]
theorem ak(h:Tr Bk)(b j:Nat)(k:Bk)(e:j≠b):hset h b k j=h j:=by grind[hset,Tr.vg]
def ld(h:Tr Bk)(b o n:Nat)(g:Bool):Option V:=match h b with|some k=>bif k.rd then zW k.cells o n g else none|none=>none
def sto(h:Tr Bk)(b o:Nat)(vs:List B):Option (Tr Bk):=match h b with
 |some k=>(match bif k.pl then yS k.cells o vs else none with|some l=>some (hset h b ⟨l,k.opn⟩)|none=>none)
 |none=>none
def ahO(n:Nat)(g:Bool)(x:O)(tm:Tr V)(σ:St):acE n g x tm σ=match x.ev tm with|.c (.ptr b o)=>ld σ.h b o n g|_=>none:=rfl
theorem ae9(n:Nat)(a x:O)(tm:Tr V)(σ:St):vM (.store n a x) tm σ=match a.ev tm,(x.ev tm).cells with
  |.c (.ptr b o),some vs=>bif Nat.beq vs.length n then(match sto σ.h b o vs with|some h=>some (.und,⟨h,σ.aj⟩)|none=>none)else none
  |_,_=>none:=by
 unfold vM sto
 dsimp only
 generalize O.ev tm a=va
 generalize (O.ev tm x).cells=vc
 cases vc with
 |none=>simp
 |some vs=>
  split
  .next b o vs' e=>
   cases e
   dsimp only
   cases Nat.beq vs.length n with
   |false=>rfl
   |true=>
    simp only[ck]
    cases σ.h b with
    |none=>rfl
    |some k=>
     dsimp only
     cases(bif k.pl then yS k.cells o vs else none)with
     |none=>rfl
     |some l=>rfl
  simp
theorem lV(σ:St)(k:Bk):σ.new k=some (σ.aj,⟨hset σ.h σ.aj k,σ.aj+1⟩):=by rfl
def amD(h:Tr Bk)(b:Nat)(k:Bk)(o n:Nat)(g:Bool):ld (hset h b k) b o n g=bif k.rd then zW k.cells o n g else none:=by unfold ld;rw[aA]
def avU(h:Tr Bk)(b j:Nat)(k:Bk)(o n:Nat)(g:Bool)(e:j≠b):ld (hset h b k) j o n g=ld h j o n g:=by grind[ld,ak]
def ahP(h:Tr Bk)(b:Nat)(k:Bk)(o:Nat)(vs:List B):sto (hset h b k) b o vs=match bif k.pl then yS k.cells o vs else none with|some l=>some (hset (hset h b k) b ⟨l,k.opn⟩)|none=>none:=by unfold sto;rw[aA]
def arF(h:Tr Bk)(b j:Nat)(k:Bk)(o:Nat)(vs:List B)(e:j≠b):sto (hset h b k) j o vs=match h j with|some k'=>(match bif k'.pl then yS k'.cells o vs else none with|some l=>some (hset (hset h b k) j ⟨l,k'.opn⟩)|none=>none)|none=>none:=by grind[sto,ak]
def azg{α:Sort _}(a b:α):(bif true then a else b)=a:=rfl
def azh{α:Sort _}(a b:α):(bif false then a else b)=b:=rfl
theorem IJ{a b:Nat}(h:a<b):Nat.blt a b=true:=fa h
theorem yj{a b:Nat}(h:a<=b):Nat.ble a b=true:=fa h
theorem XY(a:Nat):Nat.beq a a=true:=by simp
theorem S9{a b:Nat}(h:a≠b):Nat.beq a b=false:=by grind[Nat.eq_of_beq_eq_true]
theorem U9{n:Nat}(h:n<=9223372036854775807):mkI .i64 (.ofNat n)=some (jN n):=by grind[mkI,apV,JC,yj]
def add_ofNat(a b:Nat):(Int.ofNat a+Int.ofNat b)=Int.ofNat (a+b):=rfl
def aG(a b:Nat):decide (Int.ofNat a<Int.ofNat b)=decide (a<b):=by simp
def WF(σ:St):Prop:=∀b,σ.aj<=b->σ.h b=none
structure Fr(σ σ':St):Prop where
 le:σ.aj<=σ'.aj
 wf:WF σ'
 old:∀b,b<σ.aj->σ'.h b=σ.h b
theorem Fr.refl{σ:St}(h:WF σ):Fr σ σ:=⟨jp,h,λ_ _=>rfl⟩
def Fr.trans{σ σ' Ou:St}(h:Fr σ σ')(h':Fr σ' Ou):Fr σ Ou:=⟨ap h.le h'.le,h'.wf,λb hb=>(h'.old b (aM hb h.le)).trans (h.old b hb)⟩
def WF.lt{σ:St}(h:WF σ){b:Nat}{k:Bk}(hb:σ.h b=some k):b<σ.aj:=by refine Nat.lt_of_not_le λe=>?_;rw[h b e]at hb;cases hb
def WF.dA{σ:St}(h:WF σ){b o n:Nat}{g:Bool}{v:V}(hb:ld σ.h b o n g=some v):b<σ.aj:=by
 unfold ld at hb;split at hb
 .next k hk=>exact h.lt hk
 grind
theorem Fr.ld{σ σ':St}(h:WF σ)(hf:Fr σ σ'){b o n:Nat}{g:Bool}{v:V}(hb:Xe.ld σ.h b o n g=some v):Xe.ld σ'.h b o n g=some v:=by have hlt:=h.dA hb;unfold Xe.ld at hb⊢;rw[hf.old b hlt];exact hb
def Fr.get{σ σ':St}(h:WF σ)(hf:Fr σ σ'){b:Nat}{k:Bk}(hb:σ.h b=some k):σ'.h b=some k:=by rw[hf.old b (h.lt hb)];exact hb
def Fr.new{σ σ':St}(hf:Fr σ σ')(k:Bk):Fr σ ⟨hset σ'.h σ'.aj k,σ'.aj+1⟩:=
 ⟨Nat.le_succ_of_le hf.le,λb hb=>by
  have hb:σ'.aj+1<=b:=hb;show hset σ'.h σ'.aj k b=none;rw[ak _ _ _ _ jb];exact hf.wf b jb,λb hb=>by
  show hset σ'.h σ'.aj k b=_;have:=hf.le;rw[ak _ _ _ _ jb];exact hf.old b hb⟩
def Fr.set{σ σ':St}(hf:Fr σ σ'){b:Nat}(hb:σ.aj<=b)(hb2:b<σ'.aj)(k:Bk):Fr σ ⟨hset σ'.h b k,σ'.aj⟩:=
 ⟨hf.le,λj hj=>by
  have hj:σ'.aj<=j:=hj;show hset σ'.h b k j=none;rw[ak _ _ _ _ jb];exact hf.wf j hj,λj hj=>by
  show hset σ'.h b k j=_;rw[ak _ _ _ _ jb];exact hf.old j hj⟩
def HL(h:Tr Bk)(e:Nat)(v:B)(n:Nat)(G:Nat->List B):Prop:=
 (n=0/\v=.aP)\/∃b o c,v=.sl b o n c/\∀i,i<n->ld h b (o+i*e) e true=some (.agg (G i))
def HC(h:Tr Bk)(v:B)(n:Nat)(G:Nat->B):Prop:=
 (n=0/\v=.aP)\/∃b o c,v=.sl b o n c/\∀i,i<n->ld h b (o+i*1) 1 false=some (.c (G i))
def lenV:V->Option V
 |.c (.sl _ _ n _)=>some (jN n)
 |.c .aP=>some (jN 0)
 |_=>none
def amE(b o n:Nat)(c:Cap):lenV (.c (.sl b o n c))=some (jN n):=rfl
def afa:lenV (.c .aP)=some (jN 0):=rfl
def HL.len{h:Tr Bk}{e:Nat}{v:B}{n:Nat}{G:Nat->List B}(hl:HL h e v n G):lenV (.c v)=some (jN n):=by rcases hl with⟨rfl,rfl⟩|⟨b,o,c,rfl,-⟩<;>rfl
def HC.len{h:Tr Bk}{v:B}{n:Nat}{G:Nat->B}(hl:HC h v n G):lenV (.c v)=some (jN n):=by rcases hl with⟨rfl,rfl⟩|⟨b,o,c,rfl,-⟩<;>rfl
def HL.pos{h:Tr Bk}{e:Nat}{v:B}{n:Nat}{G:Nat->List B}(hl:HL h e v n G)(hn:0<n):∃b o c,v=.sl b o n c/\∀i,i<n->ld h b (o+i*e) e true=some (.agg (G i)):=by
 rcases hl with⟨rfl,-⟩|h
 .omega
 .exact h
def HC.pos{h:Tr Bk}{v:B}{n:Nat}{G:Nat->B}(hl:HC h v n G)(hn:0<n):∃b o c,v=.sl b o n c/\∀i,i<n->ld h b (o+i*1) 1 false=some (.c (G i)):=by
 rcases hl with⟨rfl,-⟩|h
 .omega
 .exact h
theorem HL.fr{σ σ':St}(hW:WF σ)(hf:Fr σ σ'){e:Nat}{v:B}{n:Nat}{G:Nat->List B}(hl:HL σ.h e v n G):HL σ'.h e v n G:=by
 rcases hl with h|⟨b,o,c,rfl,h⟩
 .exact .inl h
 .exact .inr ⟨b,o,c,rfl,λi hi=>hf.ld hW (h i hi)⟩
theorem HC.fr{σ σ':St}(hW:WF σ)(hf:Fr σ σ'){v:B}{n:Nat}{G:Nat->B}(hl:HC σ.h v n G):HC σ'.h v n G:=by
 rcases hl with h|⟨b,o,c,rfl,h⟩
 .exact .inl h
 .exact .inr ⟨b,o,c,rfl,λi hi=>hf.ld hW (h i hi)⟩
section
variable (E:Env)
def afb(tm:Tr V)(σ:St)(Q:Tr V->St->Prop):wpOps E [] tm σ Q=Q tm σ:=rfl
def wpOps_cons(o:AO)(r:List AO)(tm:Tr V)(σ:St)(Q:Tr V->St->Prop):wpOps E (o::r) tm σ Q=wpG E o tm σ λv σ'=>wpOps E r (FP tm o.dst v) σ' Q:=rfl
variable (tm:Tr V) (σ:St) (K:V→St→Prop)
def H8(o:Option V)(K:V->Prop):Prop:=match o with|some v=>K v|none=>False
def ahQ(v:V)(K:V->Prop):H8 (some v) K=K v:=rfl
theorem iF{op:wS}(h:op.kind=.q)(h2:∀g l,op≠.call g l):wpOp E op tm σ K=H8 (dw op tm σ) λv=>K v σ:=by unfold wpOp;grind[qw,H8]
def arG(c a b:O):wpOp E (.pick c a b) tm σ K=H8 (match c.ev tm with|.c (.bool t)=>some (bif t then a.ev tm else b.ev tm)|_=>none) λv=>K v σ:=iF _ _ _ _ rfl λ_ _ h=>by cases h
def o_load(n:Nat)(g:Bool)(x:O):wpOp E (.load n g x) tm σ K=H8 (match x.ev tm with|.c (.ptr b o)=>ld σ.h b o n g|_=>none) λv=>K v σ:=iF _ _ _ _ rfl λ_ _ h=>by cases h
def amF(off:Nat)(x:O):wpOp E (.Dp off x) tm σ K=H8 (match x.ev tm with|.c (.ptr b o)=>some (.c (.ptr b (o+off)))|_=>none) λv=>K v σ:=by rw[iF _ _ _ _ (by rfl) λ_ _ h=>by cases h];grind[dw,aaA,uw]
def amG(off n:Nat)(g:Bool)(x:O):wpOp E (.field off n g x) tm σ K=H8 (match x.ev tm with|.agg l=>zW l off n g|_=>none) λv=>K v σ:=iF _ _ _ _ rfl λ_ _ h=>by cases h
def iaV(e:Nat)(v:V)(i:V):Option V:=match v,KQ i with|.c (.sl b o n _),some j=>(bif Nat.blt j n then some (.c (.ptr b (o+j*e)))else none)|_,_=>none
def amH(e:Nat)(x i:O):wpOp E (.F7 e x i) tm σ K=H8 (iaV e (x.ev tm) (i.ev tm)) λv=>K v σ:=by rw[iF _ _ _ _ (by rfl) λ_ _ h=>by cases h];unfold dw aaB iaV;grind[uw]
def arH(e b o n j:Nat)(c:Cap)(h:j<n):iaV e (.c (.sl b o n c)) (jN j)=some (.c (.ptr b (o+j*e))):=by simp_all[iaV,KQ,IJ]
def avV(i:Nat)(x:O):wpOp E (.ext i x) tm σ K=H8 (ahj i x tm) λv=>K v σ:=iF _ _ _ _ rfl λ_ _ h=>by cases h
def ahR:Nat->V->Option V
 |0,.aZ a _=>some a
 |1,.aZ _ (.aZ a _)=>some a
 |2,.aZ _ (.aZ _ (.aZ a _))=>some a
 |_,_=>none
def arI(i:Nat)(x:O)(tm:Tr V):ahj i x tm=ahR i (x.ev tm):=by unfold ahj ahR;grind
def arJ(a r:V):ahR 0 (.aZ a r)=some a:=rfl
def arK(a b r:V):ahR 1 (.aZ a (.aZ b r))=some b:=rfl
def arL(a b c r:V):ahR 2 (.aZ a (.aZ b (.aZ c r)))=some c:=rfl
def avW(b:BinOp)(x y:O):wpOp E (.bin b x y) tm σ K=H8 (oL b (x.ev tm) (y.ev tm)) λv=>K v σ:=iF _ _ _ _ rfl λ_ _ h=>by cases h
def avX(a b:Int):oL .lss (.c (.int .i64 a)) (.c (.int .i64 b))=some (.c (.bool (decide (a<b)))):=rfl
def avY(a b:Int):oL .gtr (.c (.int .i64 a)) (.c (.int .i64 b))=some (.c (.bool (decide (b<a)))):=rfl
def avZ(a b:Int):oL .leq (.c (.int .i64 a)) (.c (.int .i64 b))=some (.c (.bool (decide (a<=b)))):=rfl
def av1(a b:Int):oL .geq (.c (.int .i64 a)) (.c (.int .i64 b))=some (.c (.bool (decide (b<=a)))):=rfl
def av2(a b:Int):oL .eql (.c (.int .i64 a)) (.c (.int .i64 b))=some (.c (.bool (decide (a=b)))):=rfl
def av3(a b:Int):oL .neq (.c (.int .i64 a)) (.c (.int .i64 b))=some (.c (.bool (!decide (a=b)))):=rfl
def arM(a b:ByteArray):oL .eql (.c (.str a)) (.c (.str b))=some (.c (.bool (decide (a=b)))):=rfl
def arN(a b:ByteArray):oL .neq (.c (.str a)) (.c (.str b))=some (.c (.bool (!decide (a=b)))):=rfl
def av4(a b:Nat)(h:a+b<=9223372036854775807):oL .add (jN a) (jN b)=some (jN (a+b)):=by show mkI .i64 (Int.ofNat a+Int.ofNat b)=_;rw[add_ofNat,U9 h]
def av5(a b:Nat)(h:a<=9223372036854775807)(h2:b<=a):oL .sub (jN a) (jN b)=some (jN (a-b)):=by show mkI .i64 (Int.ofNat a-Int.ofNat b)=_;grind[U9]
def av6(p:Bool)(x y:O):wpOp E (.eqb p x y) tm σ K=H8 (match x.ev tm,y.ev tm with|.c (.bool a),.c (.bool b)=>some (.c (.bool (p==(a==b))))|_,_=>none) λv=>K v σ:=iF _ _ _ _ rfl λ_ _ h=>by cases h
def amI(p:Bool)(x y:O):wpOp E (.F8 p x y) tm σ K=H8 (match x.ev tm,y.ev tm with|.agg l,.agg r=>(match eqB l r with|some b=>some (.c (.bool (p==b)))|none=>none)|_,_=>none) λv=>K v σ:=iF _ _ _ _ rfl λ_ _ h=>by cases h
def arO(a b c d:Int):eqL [.int .i64 a,.int .i64 b] [.int .i64 c,.int .i64 d]=some (decide (a=c)&&decide (b=d)):=rfl
def amJ(p q:Rat):eqB [.bool (rn p),.str (rs p),.str (rd p)] [.bool (rn q),.str (rs q),.str (rd q)]=some (decide (p=q)):=by grind[eqB,eqS,decide,aaj]
def av7(k:Nat)(p:Bool)(v:V):Option V:=match k,v with
 |0,.c (.sl ..)=>some (.c (.bool (!p)))
 |0,.c .aP=>some (.c (.bool p))
 |1,.c (.ptr ..)=>some (.c (.bool (!p)))
 |1,.c .UM=>some (.c (.bool p))
 |2,.fn ..=>some (.c (.bool (!p)))
 |2,.Oa=>some (.c (.bool p))
 |_,_=>none
def av8(k:Nat)(p:Bool)(x:O):wpOp E (.nil k p x) tm σ K=H8 (av7 k p (x.ev tm)) λv=>K v σ:=iF _ _ _ _ rfl λ_ _ h=>by cases h
def av9(x:O):wpOp E (.not x) tm σ K=H8 (match x.ev tm with|.c (.bool b)=>some (.c (.bool !b))|_=>none) λv=>K v σ:=iF _ _ _ _ rfl λ_ _ h=>by cases h
def amK(z:List B)(ps:List (Nat×Nat×O)):wpOp E (.build z ps) tm σ K=H8 (match Dq z (ps.map λp=>(p.1,p.2.1,p.2.2.ev tm))with|some l=>some (.agg l)|none=>none) λv=>K v σ:=iF _ _ _ _ rfl λ_ _ h=>by cases h
def arP(f:Nat)(cs:List O):wpOp E (.Q7 f cs) tm σ K=H8 (match aaz tm cs with|some l=>some (.fn f l)|none=>none) λv=>K v σ:=iF _ _ _ _ rfl λ_ _ h=>by cases h
def awc(x:O):wpOp E (.len x) tm σ K=H8 (lenV (x.ev tm)) λv=>K v σ:=iF _ _ _ _ rfl λ_ _ h=>by cases h
def arQ(x:O):wpOp E (.Q8 x) tm σ K=H8 (match x.ev tm with|.c (.ptr b o)=>some (.c (.ptr b o))|.fn f l=>some (.fn f l)|_=>none) λv=>K v σ:=iF _ _ _ _ rfl λ_ _ h=>by cases h
def amL(z:List B):wpOp E (.alloc z) tm σ K=K (.c (.ptr σ.aj 0)) ⟨hset σ.h σ.aj ⟨z,none⟩,σ.aj+1⟩:=by rfl
def awd(x:O):wpOp E (.box x) tm σ K=match(x.ev tm).cells with|some l=>K (.c (.ptr σ.aj 0)) ⟨hset σ.h σ.aj ⟨l,none⟩,σ.aj+1⟩|none=>False:=by grind[wpOp,qw,wS.kind,oC,lV]
def arR(bytes:Nat)(z:List B)(l c:O):wpOp E (.Lp bytes z l c) tm σ K=match KQ (l.ev tm),KQ (c.ev tm)with
  |some n,some m=>(bif Nat.ble n m&&(Nat.ble (bytes*m) 281474976710656&&Nat.ble m 1073741824)then K (.c (.sl σ.aj 0 n (.ex m))) ⟨hset σ.h σ.aj ⟨rep z m,none⟩,σ.aj+1⟩else False)
  |_,_=>False:=by
 grind[wpOp,qw,wS.kind,oC,lV]
def awe(e n:Nat)(z:List B)(ps:List (Nat×Nat×O))(h:n*e<=16777216)(h':n<=16777216):wpOp E (.bsl e n z ps) tm σ K=match Dq (rep z n) (ps.map λp=>(p.1,p.2.1,p.2.2.ev tm))with
  |some l=>K (.c (.sl σ.aj 0 n (.ex n))) ⟨hset σ.h σ.aj ⟨l,none⟩,σ.aj+1⟩|none=>False:=by
 grind[wpOp,qw,wS.kind,oC,lV,yj]
def amM(n:Nat)(a x:O):wpOp E (.store n a x) tm σ K=match a.ev tm,(x.ev tm).cells with
  |.c (.ptr b o),some vs=>(bif Nat.beq vs.length n then(match sto σ.h b o vs with|some h=>K .und ⟨h,σ.aj⟩|none=>False)else False)
  |_,_=>False:=by
 grind[wpOp,qw,wS.kind,ae9]
def arS(g:O)(args:List O):wpOp E (.call g args) tm σ K=match g.ev tm with|.fn f caps=>aC E f (args.map (·.ev tm)++caps.map .c) σ K|_=>False:=rfl
end
end Go.Proofs.Xe
end
