import Derived.Test.YtchhojplceoifaaGreatDoorYd9
set_option linter.all false
set_option maxRecDepth 100000
noncomputable section
namespace Go.Proofs.Xe
open Go.RowKit Go.Proofs.Ins
def szK:Nat:=60000000
def Sz(q:Rat):Prop:=Sm szK q
def ET(a:Nat):Prop:=(bn a).size<=60000000
def rV(q:Rat):V:=.agg [.bool (rn q),.str (rs q),.str (rd q)]
def rbV(q:Rat)(b:Bool):V:=.aZ (rV q) (.aZ (.c (.bool b)) .tnil)
def iV(i:Int):V:=.c (.int .i64 i)
def Sz.sizes{p:Rat}(h:Sz p):(rs p).size<=60000000/\(rd p).size<=60000000:=⟨Sm.rs h,Sm.rd h⟩
def aAQ(a b:Nat):Rat:=((Int.ofNat a:Int):Rat)/((Int.ofNat b:Int):Rat)
def Z4{a b:Nat}(h:bn a=bn b):a=b:=by rw[<-iy a,<-iy b,h]
abbrev kb(b:Bool):O:=.k (.c (.bool b))
abbrev d(n:Nat):Option Nat:=some n
abbrev s0:B:=.str ⟨#[]⟩
abbrev i0:B:=.int .i64 (.ofNat 0)
def QM(c:Bool)(R:Rat->Rat->V):List V->Option V
 |[.agg [.bool n,.str s,.str d],.agg [.bool m,.str t,.str e]]=>if(s.size+d.size<=130000000/\t.size+e.size<=130000000)/\(c=true->QU n s d/\QU m t e)then some (R (rq n s d) (rq m t e))else none
 |_=>none
def ZN(c:Bool)(R:Rat->V):List V->Option V
 |[.agg [.bool n,.str s,.str d]]=>if s.size+d.size<=130000000/\(c=true->QU n s d)then some (R (rq n s d))else none
 |_=>none
def kVd:List V->Option V
 |[.agg [.bool n,.str s,.str d]]=>if s.size+d.size<=130000000 then some (.c (.bool (decide (QU n s d))))else none
 |_=>none
def kN1(R:Nat->V):List V->Option V
 |[.c (.str s)]=>if s.size<=1073741824 then some (R (nv s))else none
 |_=>none
def ZO(R:Nat->Nat->Option V):List V->Option V
 |[.c (.str s),.c (.str t)]=>if s.size<=1073741824/\t.size<=1073741824 then R (nv s) (nv t)else none
 |_=>none
def kB3(R:Bool->Nat->Nat->Option V):List V->Option V
 |[.c (.bool n),.c (.str s),.c (.str t)]=>if s.size<=1073741824/\t.size<=1073741824 then R n (nv s) (nv t)else none
 |_=>none
def kI(k:IntKind)(l h:Int)(R:Int->V):List V->Option V
 |[.c (.int j i)]=>if j=k/\l<=i/\i<=h then some (R i)else none
 |_=>none
def kQ(R:Int->Int->V):List V->Option V
 |[.c (.int j i),.c (.int k m)]=>if(j=.i64/\0<=i/\i<23)/\k=.i64/\0<m/\(m<7\/m=8)then some (R i m)else none
 |_=>none
def DC(c:Bool)(R:Rat->Rat->V){p q:Rat}(hp:Sz p)(hq:Sz q):QM c R [rV p,rV q]=some (R p q):=by unfold QM rV;have:=hp.sizes;have:=hq.sizes;simp only;rw[ae ⟨jb,λ_=>⟨Df p,Df q⟩⟩,FV,FV]
def aaI(c:Bool)(R:Rat->V){p:Rat}(hp:Sz p):ZN c R [rV p]=some (R p):=by unfold ZN rV;have:=hp.sizes;simp only;rw[ae ⟨jb,λ_=>Df p⟩,FV]
def arh{p:Rat}(hp:Sz p):kVd [rV p]=some (.c (.bool true)):=by unfold kVd rV;have:=hp.sizes;simp only;rw[ae jb,be (Df p)]
def OH(R:Nat->Nat->Option V){a b:Nat}{v:V}(ha:ET a)(hb:ET b)(h:R a b=some v):ZO R [.c (.str (bn a)),.c (.str (bn b))]=some v:=by unfold ZO ET at*;simp only;rw[ae jb,iy,iy,h]
def ari(R:Bool->Nat->Nat->Option V){n:Bool}{a b:Nat}{v:V}(ha:ET a)(hb:ET b)(h:R n a b=some v):kB3 R [.c (.bool n),.c (.str (bn a)),.c (.str (bn b))]=some v:=by unfold kB3 ET at*;simp only;rw[ae jb,iy,iy,h]
noncomputable section
def jP(f:Nat):List V->Option V:=
 bif Nat.beq f 114 then(kN1 λa=>.c (.str (bn a)))else
 bif Nat.beq f 61 then(ZO λa b=>some (iV (rJ a b)))else
 bif Nat.beq f 111 then(ZO λa b=>some (.c (.str (bn (a+b)))))else
 bif Nat.beq f 62 then(ZO λa b=>some (.c (.str (bn (a*b)))))else
 bif Nat.beq f 119 then(ZO λa b=>some (.c (.str (bn (Nat.gcd a b)))))else
 bif Nat.beq f 112 then(ZO λa b=>some (if b<=a then .aZ (.c (.str (bn (a-b)))) (.aZ (.c (.bool true)) .tnil)else .aZ (.c (.str ⟨#[]⟩)) (.aZ (.c (.bool false)) .tnil)))else
 bif Nat.beq f 120 then(ZO λa b=>if 0<b then some (.aZ (.c (.str (bn (a/b)))) (.aZ (.c (.str (bn (a%b)))) (.aZ (.c (.bool true)) .tnil)))else none)else
 bif Nat.beq f 121 then(kI .u64 0 18446744073709551615 λi=>.c (.str (bn i.toNat)))else
 bif Nat.beq f 66 then(kI .i64 0 100 λi=>rV i)else
 bif Nat.beq f 23 then(kQ λi j=>rV ((i:Rat)/(j:Rat)))else
 bif Nat.beq f 21 then(kI .u16 0 65535 λi=>rV (amt i.toNat))else
 bif Nat.beq f 63 then(ZN true λp=>.c (.str (bn p.den)))else
 bif Nat.beq f 113 then kVd else
 bif Nat.beq f 59 then(ZN false λp=>rV p)else
 bif Nat.beq f 64 then(kB3 λn a b=>if 0<b then some (rV (fr n a b))else none)else
 bif Nat.beq f 196 then(kB3 λn a b=>some (if b=0 then rbV 0 false else rbV (fr n a b) true))else
 bif Nat.beq f 65 then(kI .i64 (-9223372036854775808) 9223372036854775807 λi=>.c (.str (bn i.natAbs)))else
 bif Nat.beq f 19 then(kI .i64 (-9223372036854775808) 9223372036854775807 λi=>rV i)else
 bif Nat.beq f 60 then(ZN true λp=>iV (sg p))else
 bif Nat.beq f 20 then(ZN false λp=>iV (sg p))else
 bif Nat.beq f 68 then(ZN true λp=>rV (-p))else
 bif Nat.beq f 58 then(QM true λp q=>rV (p+q))else
 bif Nat.beq f 17 then(QM false λp q=>rV (p+q))else
 bif Nat.beq f 24 then(QM false λp q=>rV (p-q))else
 bif Nat.beq f 25 then(QM false λp q=>rV (p*q))else
 bif Nat.beq f 157 then(QM false λp q=>rbV (IB p q) (okR q))else
 bif Nat.beq f 18 then(QM false λp q=>iV (oq p q))else
 bif Nat.beq f 184 then(QM false λp q=>rV (JJ p q))else
 bif Nat.beq f 91 then(QM false λp q=>rV (vJ p q))else
 λ_=>none
end
class jQ (E:Env) (f:Nat):Prop where
 o:∀args v σ,jP f args=some v->E.Xh f args σ=some (v,σ)
def ahB{E:Env}{f:Nat}{args:List V}{v:V}{σ σ2:St}{K:V->St->Prop}(h:E.Xh f args σ=some (v,σ2)):aC E f args σ K=K v σ2:=by
 refine propext ⟨λ⟨n,v',σ',h1,h2⟩=>?_,λhk=>XH h hk⟩;have h3:jc E 1 f args σ=some (v,σ2):=by rw[jc];unfold Il;rw[h]
 have a:=oC (show n<=n+1 by omega) f args σ _ h1;have b:=oC (show 1<=n+1 by omega) f args σ _ h3;rw[a]at b;cases b;exact h2
def aT{E:Env}{f:Nat}[hE:jQ E f]{args:List V}{v:V}{σ:St}{K:V->St->Prop}(h:jP f args=some v):aC E f args σ K=K v σ:=ahB (hE.o args v σ h)
def OI(P:Program)(f:Nat):Bool:=match P.funcs[f]? with|some fn=> !fn.body.isNone&& !(fn.name== "runtime.NumGoroutine")|none=>false
def zT{P:Program}{f:Nat}(h:OI P f=true):okF P f:=by
 unfold OI at h;split at h
 .next fn hfn=>
  simp only[af,ie]at h;exact⟨fn,hfn,h.1,h.2⟩
 .cases h
def Ct(P:Program)(f:Nat)(v:V)(bP:Array Value)(w:World):Prop:=
 Calls P f bP w λe w'=>∃cv,e=.returned cv/\Below w.heap.size w w'/\∀φ',RV φ' v cv
class Aq (f:Nat):Prop where
 k:okF Tryz.prog f
 c:∀args v,jP f args=some v->∀(φ:Ph) (bP:Array Value) (w:World),Io φ args bP.toList->Ct Tryz.prog f v bP w
class OkL (l:List Nat):Prop where
 o:∀f,l.contains f=true->Aq f
class Mm (f:Nat) (l:List Nat):Prop where
 h:l.contains f=true
instance:OkL []:=⟨nofun⟩
instance {f:Nat}{l:List Nat} [h:Aq f] [hl:OkL l]:OkL (f::l):=⟨λg hg=>by
 rw[List.contains_cons,Bool.or_eq_true]at hg;rcases hg with hg|hg
 .rw[eq_of_beq hg];exact h
 .exact hl.o g hg⟩
instance {f:Nat}{l:List Nat}:Mm f (f::l):=⟨by simp⟩
instance {f g:Nat}{l:List Nat} [h:Mm f l]:Mm f (g::l):=⟨by simpa using .inr (by simpa using h.h)⟩
def Eb(l:List Nat):Env:=⟨tF Tryz.prog,λf args σ=>bif l.contains f then(match jP f args with|some v=>some (v,σ)|none=>none)else none⟩
instance {f:Nat}{l:List Nat} [h:Mm f l]:jQ (Eb l) f:=⟨λargs v σ hv=>by unfold Eb;dsimp only;rw[h.h,hv];rfl⟩
def Aq.Xh{f:Nat}(h:Aq f){args:List V}{σ σ':St}{v:V}(ho:(match jP f args with|some v=>some (v,σ)|none=>none)=some (v,σ')):okF Tryz.prog f/\∀(N:Nat) (w0:World) (φ:Ph) (w:World) (bP:Array Value),Rel N w0 φ σ w->Io φ args bP.toList->
  Calls Tryz.prog f bP w λe w'=>∃cv,e=.returned cv/\∃φ',Ext σ.aj φ φ'/\Rel N w0 φ' σ' w'/\RV φ' v cv/\σ.aj<=σ'.aj:=by
 split at ho
 .next u hu=>
  cases ho
  refine⟨h.k,λN w0 φ w bP hR ha=>(h.c _ _ hu φ bP w ha).mono λe w' he=>?_⟩
  obtain⟨cv,rfl,hb,hv⟩:=he
  exact⟨cv,rfl,φ,Ext.refl _ _,hR.below hb,hv φ,jp⟩
 .cases ho
def SN{l:List Nat}[h:OkL l]:OB Tryz.prog (Eb l):=by
 refine⟨λf F h=>ahv h,λf args σ v σ' ho=>?_⟩;unfold Eb at ho;dsimp only at ho;cases hc:l.contains f with
 |false=>rw[hc]at ho;cases ho
 |true=>rw[hc]at ho;exact(h.o f hc).Xh ho
def fB:B->Bool
 |.int ..|.bool _|.str _=>true
 |_=>false
def fV:V->Bool
 |.c x=>fB x
 |.agg l=>l.all fB
 |.aZ a r=>fV a&&fV r
 |.tnil=>true
 |_=>false
section
variable {φ φ' : Ph}
def RB.flat{x:B}{v:Value}(h:fB x=true)(hv:RB φ x v):RB φ' x v:=by cases x<;>first|exact hv|cases h
def lS.flat:∀{l:List B}{r:List Value},l.all fB=true->lS φ l r->lS φ' l r
 |[],[],_,_=>trivial
 |_::_,_::_,h,hv=>by rw[cD,af]at h;exact⟨hv.1.flat h.1,lS.flat h.2 hv.2⟩
 |[],_::_,_,hv=>hv.elim
 |_::_,[],_,hv=>hv.elim
def RV.flat:∀{x:V}{v:Value},fV x=true->RV φ x v->RV φ' x v
 |.c _,_,h,hv=>RB.flat h hv
 |.agg _,_,h,⟨r,e,hr⟩=>⟨r,e,hr.flat h⟩
 |.aZ _ _,_,h,⟨x,xs,e,h1,h2⟩=>by unfold fV at h;rw[af]at h;exact⟨x,xs,e,h1.flat h.1,h2.flat h.2⟩
 |.tnil,_,_,hv=>hv
def Io.flat:∀{l:List V}{r:List Value},l.all fV=true->Io φ l r->Io φ' l r
 |[],[],_,_=>trivial
 |_::_,_::_,h,hv=>by rw[cD,af]at h;exact⟨hv.1.flat h.1,Io.flat h.2 hv.2⟩
 |[],_::_,_,hv=>hv.elim
 |_::_,[],_,hv=>hv.elim
end
def ay0(w:World):Rel w.heap.size w (λ_=>none) ⟨.leaf,0⟩ w:=
 ⟨jp,Below.refl _ _,nofun,nofun,nofun,nofun,λb _=>⟨rfl,Tr.N8 b⟩⟩
def Gv{E:Env}(hE:OB Tryz.prog E){f:Nat}{args:List V}{v:V}(ha:args.all fV=true)(hv:fV v=true)(h:aC E f args ⟨.leaf,0⟩ λr _=>r=v)(φ:Ph)(bP:Array Value)(w:World)(hr:Io φ args bP.toList):Ct Tryz.prog f v bP w:=by obtain⟨n,r,σ',h1,rfl⟩:=h;refine(SL hE (by kernel_rfl) h1 (ay0 w) (hr.flat ha)).mono λe w' he=>?_;obtain⟨cv,rfl,φ',-,hR,hc,-⟩:=he;exact⟨cv,rfl,hR.bel,λφ=>hc.flat hv⟩
structure SQ(k:Nat) where
 a:AF
 g:tG Tryz.prog k=some a:=by conv=>(lhs;reduce;simp only[ap1,avA])
 i:Xy Tryz.prog k a=true:=by kernel_rfl
def rP{f:Nat}{l:List Nat}(b:SQ f)(hl:l.contains f=false){args:List V}{σ:St}{K:V->St->Prop}(h:bM (Eb l) b.a.body (ini args) σ (aaG b.a.res K)):aC (Eb l) f args σ K:=
 aP (by unfold Eb;dsimp only;rw[hl];rfl) (ap0 b.g b.i) h
section
variable {E:Env} {σ:St} {K:V→St→Prop}
def wO:jP 114=kN1 (λa=>.c (.str (bn a))):=rfl
def yZ:jP 61=ZO (λa b=>some (iV (rJ a b))):=rfl
def zU:jP 111=ZO (λa b=>some (.c (.str (bn (a+b))))):=rfl
def arj[jQ E 111](a b:Nat)(h1:ET a)(h2:ET b):aC E 111 [.c (.str (bn a)),.c (.str (bn b))] σ K=K (.c (.str (bn (a+b)))) σ:=aT ((bR zU _).trans (OH _ h1 h2 (by first|rfl|simp)))
def qC:jP 62=ZO (λa b=>some (.c (.str (bn (a*b))))):=rfl
def XJ[jQ E 62](a b:Nat)(h1:ET a)(h2:ET b):aC E 62 [.c (.str (bn a)),.c (.str (bn b))] σ K=K (.c (.str (bn (a*b)))) σ:=aT ((bR qC _).trans (OH _ h1 h2 (by first|rfl|simp)))
def zV:jP 119=ZO (λa b=>some (.c (.str (bn (Nat.gcd a b))))):=rfl
def ark[jQ E 119](a b:Nat)(h1:ET a)(h2:ET b):aC E 119 [.c (.str (bn a)),.c (.str (bn b))] σ K=K (.c (.str (bn (Nat.gcd a b)))) σ:=aT ((bR zV _).trans (OH _ h1 h2 (by first|rfl|simp)))
def qE:jP 112=ZO (λa b=>some (if b<=a then .aZ (.c (.str (bn (a-b)))) (.aZ (.c (.bool true)) .tnil)else .aZ (.c (.str ⟨#[]⟩)) (.aZ (.c (.bool false)) .tnil))):=rfl
def XK[jQ E 112](a b:Nat)(h1:ET a)(h2:ET b):aC E 112 [.c (.str (bn a)),.c (.str (bn b))] σ K=K (if b<=a then .aZ (.c (.str (bn (a-b)))) (.aZ (.c (.bool true)) .tnil)else .aZ (.c (.str ⟨#[]⟩)) (.aZ (.c (.bool false)) .tnil)) σ:=aT ((bR qE _).trans (OH _ h1 h2 (by first|rfl|simp)))
def uz:jP 120=ZO (λa b=>if 0<b then some (.aZ (.c (.str (bn (a/b)))) (.aZ (.c (.str (bn (a%b)))) (.aZ (.c (.bool true)) .tnil)))else none):=rfl
def aeQ[jQ E 120](a b:Nat)(h1:ET a)(h2:ET b)(h0:0<b):aC E 120 [.c (.str (bn a)),.c (.str (bn b))] σ K=K (.aZ (.c (.str (bn (a/b)))) (.aZ (.c (.str (bn (a%b)))) (.aZ (.c (.bool true)) .tnil))) σ:=aT ((bR uz _).trans (OH _ h1 h2 (ae h0)))
def qF:jP 121=kI .u64 0 18446744073709551615 (λi=>.c (.str (bn i.toNat))):=rfl
def XL[jQ E 121](x:Nat)(h1:x<18446744073709551616):aC E 121 [.c (.int .u64 (.ofNat x))] σ K=K (.c (.str (bn x))) σ:=aT ((bR qF _).trans (ae ⟨rfl,by simp,by simp only[dE];omega⟩))
def IC:jP 66=kI .i64 0 100 (λi=>rV i):=rfl
def XM[jQ E 66](x:Nat)(h1:x<=100):aC E 66 [.c (.int .i64 (.ofNat x))] σ K=K (.agg [.bool (rn ((Int.ofNat x:Int):Rat)),.str (rs ((Int.ofNat x:Int):Rat)),.str (rd ((Int.ofNat x:Int):Rat))]) σ:=aT ((bR IC _).trans (ae ⟨rfl,by simp,by simp only[dE];omega⟩))
def U6:jP 23=kQ (λi j=>rV ((i:Rat)/(j:Rat))):=rfl
def F7:jP 21=kI .u16 0 65535 (λi=>rV (amt i.toNat)):=rfl
def aeR[jQ E 21](x:Nat)(h1:x<=65535):aC E 21 [.c (.int .u16 (.ofNat x))] σ K=K (.agg [.bool (rn (amt x)),.str (rs (amt x)),.str (rd (amt x))]) σ:=aT ((bR F7 _).trans (ae ⟨rfl,by simp,by simp only[dE];omega⟩))
def fH:jP 63=ZN true (λp=>.c (.str (bn p.den))):=rfl
def uF:jP 113=kVd:=rfl
def acJ[jQ E 113](p:Rat)(hp:Sz p):aC E 113 [.agg [.bool (rn p),.str (rs p),.str (rd p)]] σ K=K (.c (.bool true)) σ:=aT ((bR uF _).trans (arh hp))
def oK:jP 59=ZN false (λp=>rV p):=rfl
def ams[jQ E 59](p:Rat)(hp:Sz p):aC E 59 [.agg [.bool (rn p),.str (rs p),.str (rd p)]] σ K=K (.agg [.bool (rn p),.str (rs p),.str (rd p)]) σ:=aT ((bR oK _).trans (aaI _ _ hp))
def XO[jQ E 59](n:Bool)(s d:ByteArray)(h1:s.size+d.size<=130000000):aC E 59 [.agg [.bool n,.str s,.str d]] σ K=K (.agg [.bool (rn (rq n s d)),.str (rs (rq n s d)),.str (rd (rq n s d))]) σ:=aT ((bR oK _).trans (ae ⟨h1,nofun⟩))
def xU:jP 64=kB3 (λn a b=>if 0<b then some (rV (fr n a b))else none):=rfl
def vW:jP 196=kB3 (λn a b=>some (if b=0 then rbV 0 false else rbV (fr n a b) true)):=rfl
def arl[jQ E 196](n:Bool)(a b:Nat)(h1:ET a)(h2:ET b)(h0:0<b):aC E 196 [.c (.bool n),.c (.str (bn a)),.c (.str (bn b))] σ K=K (.aZ (.agg [.bool (rn (fr n a b)),.str (rs (fr n a b)),.str (rd (fr n a b))]) (.aZ (.c (.bool true)) .tnil)) σ:=aT ((bR vW _).trans (ari _ h1 h2 (by rw[ab jb];rfl)))
def vK:jP 65=kI .i64 (-9223372036854775808) 9223372036854775807 (λi=>.c (.str (bn i.natAbs))):=rfl
def DF:jP 19=kI .i64 (-9223372036854775808) 9223372036854775807 (λi=>rV i):=rfl
def avC[jQ E 19](i:Int)(h1: -9223372036854775808<=i)(h2:i<=9223372036854775807):aC E 19 [.c (.int .i64 i)] σ K=K (.agg [.bool (rn i),.str (rs i),.str (rd i)]) σ:=aT ((bR DF _).trans (ae ⟨rfl,h1,h2⟩))
def jY:jP 60=ZN true (λp=>iV (sg p)):=rfl
def vX:jP 20=ZN false (λp=>iV (sg p)):=rfl
def arn[jQ E 20](p:Rat)(hp:Sz p):aC E 20 [.agg [.bool (rn p),.str (rs p),.str (rd p)]] σ K=K (.c (.int .i64 (sg p))) σ:=aT ((bR vX _).trans (aaI _ _ hp))
def amu[jQ E 20](n:Bool)(s d:ByteArray)(h1:s.size+d.size<=130000000):aC E 20 [.agg [.bool n,.str s,.str d]] σ K=K (.c (.int .i64 (sg (rq n s d)))) σ:=aT ((bR vX _).trans (ae ⟨h1,nofun⟩))
def rQ:jP 68=ZN true (λp=>rV (-p)):=rfl
def ahC[jQ E 68](p:Rat)(hp:Sz p):aC E 68 [.agg [.bool (rn p),.str (rs p),.str (rd p)]] σ K=K (.agg [.bool (rn (-p)),.str (rs (-p)),.str (rd (-p))]) σ:=aT ((bR rQ _).trans (aaI _ _ hp))
def rU:jP 58=QM true (λp q=>rV (p+q)):=rfl
def avD[jQ E 58](p q:Rat)(hp:Sz p)(hq:Sz q):aC E 58 [.agg [.bool (rn p),.str (rs p),.str (rd p)],.agg [.bool (rn q),.str (rs q),.str (rd q)]] σ K=K (.agg [.bool (rn (p+q)),.str (rs (p+q)),.str (rd (p+q))]) σ:=aT ((bR rU _).trans (DC _ _ hp hq))
def xW:jP 17=QM false (λp q=>rV (p+q)):=rfl
def avE[jQ E 17](p q:Rat)(hp:Sz p)(hq:Sz q):aC E 17 [.agg [.bool (rn p),.str (rs p),.str (rd p)],.agg [.bool (rn q),.str (rs q),.str (rd q)]] σ K=K (.agg [.bool (rn (p+q)),.str (rs (p+q)),.str (rd (p+q))]) σ:=aT ((bR xW _).trans (DC _ _ hp hq))
def aro[jQ E 17](n m:Bool)(s d t e:ByteArray)(h1:s.size+d.size<=130000000)(h2:t.size+e.size<=130000000):aC E 17 [.agg [.bool n,.str s,.str d],.agg [.bool m,.str t,.str e]] σ K=K (.agg [.bool (rn ((rq n s d)+(rq m t e))),.str (rs ((rq n s d)+(rq m t e))),.str (rd ((rq n s d)+(rq m t e)))]) σ:=aT ((bR xW _).trans (ae ⟨⟨h1,h2⟩,nofun⟩))
def pF:jP 24=QM false (λp q=>rV (p-q)):=rfl
def aaJ[jQ E 24](p q:Rat)(hp:Sz p)(hq:Sz q):aC E 24 [.agg [.bool (rn p),.str (rs p),.str (rd p)],.agg [.bool (rn q),.str (rs q),.str (rd q)]] σ K=K (.agg [.bool (rn (p-q)),.str (rs (p-q)),.str (rd (p-q))]) σ:=aT ((bR pF _).trans (DC _ _ hp hq))
def XP[jQ E 24](n m:Bool)(s d t e:ByteArray)(h1:s.size+d.size<=130000000)(h2:t.size+e.size<=130000000):aC E 24 [.agg [.bool n,.str s,.str d],.agg [.bool m,.str t,.str e]] σ K=K (.agg [.bool (rn ((rq n s d)-(rq m t e))),.str (rs ((rq n s d)-(rq m t e))),.str (rd ((rq n s d)-(rq m t e)))]) σ:=aT ((bR pF _).trans (ae ⟨⟨h1,h2⟩,nofun⟩))
def wP:jP 25=QM false (λp q=>rV (p*q)):=rfl
def aaK[jQ E 25](p q:Rat)(hp:Sz p)(hq:Sz q):aC E 25 [.agg [.bool (rn p),.str (rs p),.str (rd p)],.agg [.bool (rn q),.str (rs q),.str (rd q)]] σ K=K (.agg [.bool (rn (p*q)),.str (rs (p*q)),.str (rd (p*q))]) σ:=aT ((bR wP _).trans (DC _ _ hp hq))
def y7:jP 157=QM false (λp q=>rbV (IB p q) (okR q)):=rfl
def ahD[jQ E 157](p q:Rat)(hp:Sz p)(hq:Sz q):aC E 157 [.agg [.bool (rn p),.str (rs p),.str (rd p)],.agg [.bool (rn q),.str (rs q),.str (rd q)]] σ K=K (.aZ (.agg [.bool (rn (IB p q)),.str (rs (IB p q)),.str (rd (IB p q))]) (.aZ (.c (.bool (okR q))) .tnil)) σ:=aT ((bR y7 _).trans (DC _ _ hp hq))
def jq:jP 18=QM false (λp q=>iV (oq p q)):=rfl
def aeS[jQ E 18](p q:Rat)(hp:Sz p)(hq:Sz q):aC E 18 [.agg [.bool (rn p),.str (rs p),.str (rd p)],.agg [.bool (rn q),.str (rs q),.str (rd q)]] σ K=K (.c (.int .i64 (oq p q))) σ:=aT ((bR jq _).trans (DC _ _ hp hq))
def aaL[jQ E 18](n m:Bool)(s d t e:ByteArray)(h1:s.size+d.size<=130000000)(h2:t.size+e.size<=130000000):aC E 18 [.agg [.bool n,.str s,.str d],.agg [.bool m,.str t,.str e]] σ K=K (.c (.int .i64 (oq (rq n s d) (rq m t e)))) σ:=aT ((bR jq _).trans (ae ⟨⟨h1,h2⟩,nofun⟩))
def xX:jP 184=QM false (λp q=>rV (JJ p q)):=rfl
def avF[jQ E 184](p q:Rat)(hp:Sz p)(hq:Sz q):aC E 184 [.agg [.bool (rn p),.str (rs p),.str (rd p)],.agg [.bool (rn q),.str (rs q),.str (rd q)]] σ K=K (.agg [.bool (rn (JJ p q)),.str (rs (JJ p q)),.str (rd (JJ p q))]) σ:=aT ((bR xX _).trans (DC _ _ hp hq))
def arp[jQ E 184](n m:Bool)(s d t e:ByteArray)(h1:s.size+d.size<=130000000)(h2:t.size+e.size<=130000000):aC E 184 [.agg [.bool n,.str s,.str d],.agg [.bool m,.str t,.str e]] σ K=K (.agg [.bool (rn (JJ (rq n s d) (rq m t e))),.str (rs (JJ (rq n s d) (rq m t e))),.str (rd (JJ (rq n s d) (rq m t e)))]) σ:=aT ((bR xX _).trans (ae ⟨⟨h1,h2⟩,nofun⟩))
def xY:jP 91=QM false (λp q=>rV (vJ p q)):=rfl
def avG[jQ E 91](p q:Rat)(hp:Sz p)(hq:Sz q):aC E 91 [.agg [.bool (rn p),.str (rs p),.str (rd p)],.agg [.bool (rn q),.str (rs q),.str (rd q)]] σ K=K (.agg [.bool (rn (vJ p q)),.str (rs (vJ p q)),.str (rd (vJ p q))]) σ:=aT ((bR xY _).trans (DC _ _ hp hq))
def arq[jQ E 91](n m:Bool)(s d t e:ByteArray)(h1:s.size+d.size<=130000000)(h2:t.size+e.size<=130000000):aC E 91 [.agg [.bool n,.str s,.str d],.agg [.bool m,.str t,.str e]] σ K=K (.agg [.bool (rn (vJ (rq n s d) (rq m t e))),.str (rs (vJ (rq n s d) (rq m t e))),.str (rd (vJ (rq n s d) (rq m t e)))]) σ:=aT ((bR xY _).trans (ae ⟨⟨h1,h2⟩,nofun⟩))
end
end Go.Proofs.Xe
namespace Go.Proofs.Xe
open Go.RowKit Go.Proofs.Ins
def aeT(tm:Tr V)(d:Nat)(v:V):Tr.ah (FD tm (some d) v) d=v:=by grind[Tr.ah,FD,Tr.uX]
def amv(tm:Tr V)(d j:Nat)(v:V)(h:j≠d):Tr.ah (FD tm (some d) v) j=Tr.ah tm j:=by grind[Tr.ah,FD,Tr.uX]
def aeU(tm:Tr V)(v:V):FD tm none v=tm:=rfl
def aeV(a:V)(l:List V):Tr.ah (ini (a::l)) 0=a:=by grind[Tr.ah,ES]
def aeW(a b:V)(l:List V):Tr.ah (ini (a::b::l)) 1=b:=by grind[Tr.ah,ES]
def aeX(a b c:V)(l:List V):Tr.ah (ini (a::b::c::l)) 2=c:=by grind[Tr.ah,ES]
def aeY(a b c d:V)(l:List V):Tr.ah (ini (a::b::c::d::l)) 3=d:=by grind[Tr.ah,ES]
def aeZ(a b c d e:V)(l:List V):Tr.ah (ini (a::b::c::d::e::l)) 4=e:=by grind[Tr.ah,ES]
def ae0(a b c d e f:V)(l:List V):Tr.ah (ini (a::b::c::d::e::f::l)) 5=f:=by grind[Tr.ah,ES]
def ay1(tm:Tr V)(i:Nat):O.ev tm (.t i)=Tr.ah tm i:=rfl
def ay2(tm:Tr V)(v:V):O.ev tm (.k v)=v:=rfl
def z3(l:List B):(B.bool false::s0::s0::l)=(.bool (rn 0):: .str (rs 0):: .str (rd 0)::l):=rfl
def hset(h:Tr Bk)(b:Nat)(k:Bk):Tr Bk:=h.set b (some k)
theorem aA(h:Tr Bk)(b:Nat)(k:Bk):hset h b k b=some k:=by grind[hset,Tr.uX]
theorem ak(h:Tr Bk)(b j:Nat)(k:Bk)(e:j≠b):hset h b k j=h j:=by grind[hset,Tr.uX]
def ld(h:Tr Bk)(b o n:Nat)(g:Bool):Option V:=match h b with|some k=>bif k.rd then zO k.cells o n g else none|none=>none
def sto(h:Tr Bk)(b o:Nat)(vs:List B):Option (Tr Bk):=match h b with
 |some k=>(match bif k.pl then yN k.cells o vs else none with|some l=>some (hset h b ⟨l,k.opn⟩)|none=>none)
 |none=>none
def ahE(n:Nat)(g:Bool)(x:O)(tm:Tr V)(σ:St):acz n g x tm σ=match x.ev tm with|.c (.ptr b o)=>ld σ.h b o n g|_=>none:=rfl
theorem ae1(n:Nat)(a x:O)(tm:Tr V)(σ:St):vH (.store n a x) tm σ=match a.ev tm,(x.ev tm).cells with
  |.c (.ptr b o),some vs=>bif Nat.beq vs.length n then(match sto σ.h b o vs with|some h=>some (.und,⟨h,σ.aj⟩)|none=>none)else none
  |_,_=>none:=by
 unfold vH sto
 dsimp only
 generalize O.ev tm a=va
 generalize (O.ev tm x).cells=vc
 cases vc with
 |none=>simp
 |some vs=>
  split
  .next b o vs' e=>
   cases e
   dsimp only
   cases Nat.beq vs.length n with
   |false=>rfl
   |true=>
    simp only[cj]
    cases σ.h b with
    |none=>rfl
    |some k=>
     dsimp only
     cases(bif k.pl then yN k.cells o vs else none)with
     |none=>rfl
     |some l=>rfl
  simp
theorem lT(σ:St)(k:Bk):σ.new k=some (σ.aj,⟨hset σ.h σ.aj k,σ.aj+1⟩):=by rfl
def amw(h:Tr Bk)(b:Nat)(k:Bk)(o n:Nat)(g:Bool):ld (hset h b k) b o n g=bif k.rd then zO k.cells o n g else none:=by unfold ld;rw[aA]
def avH(h:Tr Bk)(b j:Nat)(k:Bk)(o n:Nat)(g:Bool)(e:j≠b):ld (hset h b k) j o n g=ld h j o n g:=by grind[ld,ak]
def ahF(h:Tr Bk)(b:Nat)(k:Bk)(o:Nat)(vs:List B):sto (hset h b k) b o vs=match bif k.pl then yN k.cells o vs else none with|some l=>some (hset (hset h b k) b ⟨l,k.opn⟩)|none=>none:=by unfold sto;rw[aA]
def ars(h:Tr Bk)(b j:Nat)(k:Bk)(o:Nat)(vs:List B)(e:j≠b):sto (hset h b k) j o vs=match h j with|some k'=>(match bif k'.pl then yN k'.cells o vs else none with|some l=>some (hset (hset h b k) j ⟨l,k'.opn⟩)|none=>none)|none=>none:=by grind[sto,ak]
def ay3{α:Sort _}(a b:α):(bif true then a else b)=a:=rfl
def ay4{α:Sort _}(a b:α):(bif false then a else b)=b:=rfl
theorem IE{a b:Nat}(h:a<b):Nat.blt a b=true:=eZ h
theorem xZ{a b:Nat}(h:a<=b):Nat.ble a b=true:=eZ h
theorem XQ(a:Nat):Nat.beq a a=true:=by simp
theorem SS{a b:Nat}(h:a≠b):Nat.beq a b=false:=by grind[Nat.eq_of_beq_eq_true]
theorem U7{n:Nat}(h:n<=9223372036854775807):mkI .i64 (.ofNat n)=some (.c (.int .i64 (.ofNat n))):=by grind[mkI,apL,Jz,xZ]
def add_ofNat(a b:Nat):(Int.ofNat a+Int.ofNat b)=Int.ofNat (a+b):=rfl
def aG(a b:Nat):decide (Int.ofNat a<Int.ofNat b)=decide (a<b):=by simp
def WF(σ:St):Prop:=∀b,σ.aj<=b->σ.h b=none
structure Fr(σ σ':St):Prop where
 le:σ.aj<=σ'.aj
 wf:WF σ'
 old:∀b,b<σ.aj->σ'.h b=σ.h b
theorem Fr.refl{σ:St}(h:WF σ):Fr σ σ:=⟨jp,h,λ_ _=>rfl⟩
def Fr.trans{σ σ' Ot:St}(h:Fr σ σ')(h':Fr σ' Ot):Fr σ Ot:=⟨ap h.le h'.le,h'.wf,λb hb=>(h'.old b (aL hb h.le)).trans (h.old b hb)⟩
def WF.lt{σ:St}(h:WF σ){b:Nat}{k:Bk}(hb:σ.h b=some k):b<σ.aj:=by refine Nat.lt_of_not_le λe=>?_;rw[h b e]at hb;cases hb
def WF.dw{σ:St}(h:WF σ){b o n:Nat}{g:Bool}{v:V}(hb:ld σ.h b o n g=some v):b<σ.aj:=by
 unfold ld at hb;split at hb
 .next k hk=>exact h.lt hk
 grind
theorem Fr.ld{σ σ':St}(h:WF σ)(hf:Fr σ σ'){b o n:Nat}{g:Bool}{v:V}(hb:Xe.ld σ.h b o n g=some v):Xe.ld σ'.h b o n g=some v:=by have hlt:=h.dw hb;unfold Xe.ld at hb⊢;rw[hf.old b hlt];exact hb
def Fr.get{σ σ':St}(h:WF σ)(hf:Fr σ σ'){b:Nat}{k:Bk}(hb:σ.h b=some k):σ'.h b=some k:=by rw[hf.old b (h.lt hb)];exact hb
def Fr.new{σ σ':St}(hf:Fr σ σ')(k:Bk):Fr σ ⟨hset σ'.h σ'.aj k,σ'.aj+1⟩:=
 ⟨Nat.le_succ_of_le hf.le,λb hb=>by
  have hb:σ'.aj+1<=b:=hb;show hset σ'.h σ'.aj k b=none;rw[ak _ _ _ _ jb];exact hf.wf b jb,λb hb=>by
  show hset σ'.h σ'.aj k b=_;have:=hf.le;rw[ak _ _ _ _ jb];exact hf.old b hb⟩
def Fr.set{σ σ':St}(hf:Fr σ σ'){b:Nat}(hb:σ.aj<=b)(hb2:b<σ'.aj)(k:Bk):Fr σ ⟨hset σ'.h b k,σ'.aj⟩:=
 ⟨hf.le,λj hj=>by
  have hj:σ'.aj<=j:=hj;show hset σ'.h b k j=none;rw[ak _ _ _ _ jb];exact hf.wf j hj,λj hj=>by
  show hset σ'.h b k j=_;rw[ak _ _ _ _ jb];exact hf.old j hj⟩
def HL(h:Tr Bk)(e:Nat)(v:B)(n:Nat)(G:Nat->List B):Prop:=
 (n=0/\v=.aO)\/∃b o c,v=.sl b o n c/\∀i,i<n->ld h b (o+i*e) e true=some (.agg (G i))
def HC(h:Tr Bk)(v:B)(n:Nat)(G:Nat->B):Prop:=
 (n=0/\v=.aO)\/∃b o c,v=.sl b o n c/\∀i,i<n->ld h b (o+i*1) 1 false=some (.c (G i))
def lenV:V->Option V
 |.c (.sl _ _ n _)=>some (.c (.int .i64 (.ofNat n)))
 |.c .aO=>some (.c (.int .i64 (.ofNat 0)))
 |_=>none
def amx(b o n:Nat)(c:Cap):lenV (.c (.sl b o n c))=some (.c (.int .i64 (.ofNat n))):=rfl
def ae2:lenV (.c .aO)=some (.c (.int .i64 (.ofNat 0))):=rfl
def HL.len{h:Tr Bk}{e:Nat}{v:B}{n:Nat}{G:Nat->List B}(hl:HL h e v n G):lenV (.c v)=some (.c (.int .i64 (.ofNat n))):=by rcases hl with⟨rfl,rfl⟩|⟨b,o,c,rfl,-⟩<;>rfl
def HC.len{h:Tr Bk}{v:B}{n:Nat}{G:Nat->B}(hl:HC h v n G):lenV (.c v)=some (.c (.int .i64 (.ofNat n))):=by rcases hl with⟨rfl,rfl⟩|⟨b,o,c,rfl,-⟩<;>rfl
def HL.pos{h:Tr Bk}{e:Nat}{v:B}{n:Nat}{G:Nat->List B}(hl:HL h e v n G)(hn:0<n):∃b o c,v=.sl b o n c/\∀i,i<n->ld h b (o+i*e) e true=some (.agg (G i)):=by
 rcases hl with⟨rfl,-⟩|h
 .omega
 .exact h
def HC.pos{h:Tr Bk}{v:B}{n:Nat}{G:Nat->B}(hl:HC h v n G)(hn:0<n):∃b o c,v=.sl b o n c/\∀i,i<n->ld h b (o+i*1) 1 false=some (.c (G i)):=by
 rcases hl with⟨rfl,-⟩|h
 .omega
 .exact h
theorem HL.fr{σ σ':St}(hW:WF σ)(hf:Fr σ σ'){e:Nat}{v:B}{n:Nat}{G:Nat->List B}(hl:HL σ.h e v n G):HL σ'.h e v n G:=by
 rcases hl with h|⟨b,o,c,rfl,h⟩
 .exact .inl h
 .exact .inr ⟨b,o,c,rfl,λi hi=>hf.ld hW (h i hi)⟩
theorem HC.fr{σ σ':St}(hW:WF σ)(hf:Fr σ σ'){v:B}{n:Nat}{G:Nat->B}(hl:HC σ.h v n G):HC σ'.h v n G:=by
 rcases hl with h|⟨b,o,c,rfl,h⟩
 .exact .inl h
 .exact .inr ⟨b,o,c,rfl,λi hi=>hf.ld hW (h i hi)⟩
section
variable (E:Env)
def ae3(tm:Tr V)(σ:St)(Q:Tr V->St->Prop):wpOps E [] tm σ Q=Q tm σ:=rfl
def wpOps_cons(o:AO)(r:List AO)(tm:Tr V)(σ:St)(Q:Tr V->St->Prop):wpOps E (o::r) tm σ Q=wpG E o tm σ λv σ'=>wpOps E r (FD tm o.dst v) σ' Q:=rfl
variable (tm:Tr V) (σ:St) (K:V→St→Prop)
def Hu(o:Option V)(K:V->Prop):Prop:=match o with|some v=>K v|none=>False
def ahG(v:V)(K:V->Prop):Hu (some v) K=K v:=rfl
theorem iF{op:wM}(h:op.kind=.q)(h2:∀g l,op≠.call g l):wpOp E op tm σ K=Hu (dh op tm σ) λv=>K v σ:=by unfold wpOp;grind[qh,Hu]
def aru(c a b:O):wpOp E (.pick c a b) tm σ K=Hu (match c.ev tm with|.c (.bool t)=>some (bif t then a.ev tm else b.ev tm)|_=>none) λv=>K v σ:=iF _ _ _ _ rfl λ_ _ h=>by cases h
def o_load(n:Nat)(g:Bool)(x:O):wpOp E (.load n g x) tm σ K=Hu (match x.ev tm with|.c (.ptr b o)=>ld σ.h b o n g|_=>none) λv=>K v σ:=iF _ _ _ _ rfl λ_ _ h=>by cases h
def amy(off:Nat)(x:O):wpOp E (.Dj off x) tm σ K=Hu (match x.ev tm with|.c (.ptr b o)=>some (.c (.ptr b (o+off)))|_=>none) λv=>K v σ:=by rw[iF _ _ _ _ (by rfl) λ_ _ h=>by cases h];grind[dh,aat,um]
def amA(off n:Nat)(g:Bool)(x:O):wpOp E (.field off n g x) tm σ K=Hu (match x.ev tm with|.agg l=>zO l off n g|_=>none) λv=>K v σ:=iF _ _ _ _ rfl λ_ _ h=>by cases h
def iaV(e:Nat)(v:V)(i:V):Option V:=match v,KP i with|.c (.sl b o n _),some j=>(bif Nat.blt j n then some (.c (.ptr b (o+j*e)))else none)|_,_=>none
def amB(e:Nat)(x i:O):wpOp E (.FY e x i) tm σ K=Hu (iaV e (x.ev tm) (i.ev tm)) λv=>K v σ:=by rw[iF _ _ _ _ (by rfl) λ_ _ h=>by cases h];unfold dh aau iaV;grind[um]
def arv(e b o n j:Nat)(c:Cap)(h:j<n):iaV e (.c (.sl b o n c)) (.c (.int .i64 (.ofNat j)))=some (.c (.ptr b (o+j*e))):=by simp_all[iaV,KP,IE]
def avI(i:Nat)(x:O):wpOp E (.ext i x) tm σ K=Hu (ag9 i x tm) λv=>K v σ:=iF _ _ _ _ rfl λ_ _ h=>by cases h
def ahH:Nat->V->Option V
 |0,.aZ a _=>some a
 |1,.aZ _ (.aZ a _)=>some a
 |2,.aZ _ (.aZ _ (.aZ a _))=>some a
 |_,_=>none
def arw(i:Nat)(x:O)(tm:Tr V):ag9 i x tm=ahH i (x.ev tm):=by unfold ag9 ahH;grind
def arx(a r:V):ahH 0 (.aZ a r)=some a:=rfl
def arz(a b r:V):ahH 1 (.aZ a (.aZ b r))=some b:=rfl
def arA(a b c r:V):ahH 2 (.aZ a (.aZ b (.aZ c r)))=some c:=rfl
def avJ(b:BinOp)(x y:O):wpOp E (.bin b x y) tm σ K=Hu (pz b (x.ev tm) (y.ev tm)) λv=>K v σ:=iF _ _ _ _ rfl λ_ _ h=>by cases h
def avK(a b:Int):pz .lss (.c (.int .i64 a)) (.c (.int .i64 b))=some (.c (.bool (decide (a<b)))):=rfl
def avL(a b:Int):pz .gtr (.c (.int .i64 a)) (.c (.int .i64 b))=some (.c (.bool (decide (b<a)))):=rfl
def avM(a b:Int):pz .leq (.c (.int .i64 a)) (.c (.int .i64 b))=some (.c (.bool (decide (a<=b)))):=rfl
def avN(a b:Int):pz .geq (.c (.int .i64 a)) (.c (.int .i64 b))=some (.c (.bool (decide (b<=a)))):=rfl
def avO(a b:Int):pz .eql (.c (.int .i64 a)) (.c (.int .i64 b))=some (.c (.bool (decide (a=b)))):=rfl
def avP(a b:Int):pz .neq (.c (.int .i64 a)) (.c (.int .i64 b))=some (.c (.bool (!decide (a=b)))):=rfl
def arB(a b:ByteArray):pz .eql (.c (.str a)) (.c (.str b))=some (.c (.bool (decide (a=b)))):=rfl
def arC(a b:ByteArray):pz .neq (.c (.str a)) (.c (.str b))=some (.c (.bool (!decide (a=b)))):=rfl
def avQ(a b:Nat)(h:a+b<=9223372036854775807):pz .add (.c (.int .i64 (.ofNat a))) (.c (.int .i64 (.ofNat b)))=some (.c (.int .i64 (.ofNat (a+b)))):=by show mkI .i64 (Int.ofNat a+Int.ofNat b)=_;rw[add_ofNat,U7 h]
def avR(a b:Nat)(h:a<=9223372036854775807)(h2:b<=a):pz .sub (.c (.int .i64 (.ofNat a))) (.c (.int .i64 (.ofNat b)))=some (.c (.int .i64 (.ofNat (a-b)))):=by show mkI .i64 (Int.ofNat a-Int.ofNat b)=_;grind[U7]
def avS(p:Bool)(x y:O):wpOp E (.eqb p x y) tm σ K=Hu (match x.ev tm,y.ev tm with|.c (.bool a),.c (.bool b)=>some (.c (.bool (p==(a==b))))|_,_=>none) λv=>K v σ:=iF _ _ _ _ rfl λ_ _ h=>by cases h
def amC(p:Bool)(x y:O):wpOp E (.FZ p x y) tm σ K=Hu (match x.ev tm,y.ev tm with|.agg l,.agg r=>(match eqB l r with|some b=>some (.c (.bool (p==b)))|none=>none)|_,_=>none) λv=>K v σ:=iF _ _ _ _ rfl λ_ _ h=>by cases h
def arD(a b c d:Int):eqL [.int .i64 a,.int .i64 b] [.int .i64 c,.int .i64 d]=some (decide (a=c)&&decide (b=d)):=rfl
def amD(p q:Rat):eqB [.bool (rn p),.str (rs p),.str (rd p)] [.bool (rn q),.str (rs q),.str (rd q)]=some (decide (p=q)):=by grind[eqB,eqS,decide,aac]
def avT(k:Nat)(p:Bool)(v:V):Option V:=match k,v with
 |0,.c (.sl ..)=>some (.c (.bool (!p)))
 |0,.c .aO=>some (.c (.bool p))
 |1,.c (.ptr ..)=>some (.c (.bool (!p)))
 |1,.c .UK=>some (.c (.bool p))
 |2,.fn ..=>some (.c (.bool (!p)))
 |2,.N9=>some (.c (.bool p))
 |_,_=>none
def avU(k:Nat)(p:Bool)(x:O):wpOp E (.nil k p x) tm σ K=Hu (avT k p (x.ev tm)) λv=>K v σ:=iF _ _ _ _ rfl λ_ _ h=>by cases h
def avV(x:O):wpOp E (.not x) tm σ K=Hu (match x.ev tm with|.c (.bool b)=>some (.c (.bool !b))|_=>none) λv=>K v σ:=iF _ _ _ _ rfl λ_ _ h=>by cases h
def amE(z:List B)(ps:List (Nat×Nat×O)):wpOp E (.build z ps) tm σ K=Hu (match Dk z (ps.map λp=>(p.1,p.2.1,p.2.2.ev tm))with|some l=>some (.agg l)|none=>none) λv=>K v σ:=iF _ _ _ _ rfl λ_ _ h=>by cases h
def arE(f:Nat)(cs:List O):wpOp E (.QY f cs) tm σ K=Hu (match aas tm cs with|some l=>some (.fn f l)|none=>none) λv=>K v σ:=iF _ _ _ _ rfl λ_ _ h=>by cases h
def avW(x:O):wpOp E (.len x) tm σ K=Hu (lenV (x.ev tm)) λv=>K v σ:=iF _ _ _ _ rfl λ_ _ h=>by cases h
def arF(x:O):wpOp E (.QZ x) tm σ K=Hu (match x.ev tm with|.c (.ptr b o)=>some (.c (.ptr b o))|.fn f l=>some (.fn f l)|_=>none) λv=>K v σ:=iF _ _ _ _ rfl λ_ _ h=>by cases h
def amF(z:List B):wpOp E (.alloc z) tm σ K=K (.c (.ptr σ.aj 0)) ⟨hset σ.h σ.aj ⟨z,none⟩,σ.aj+1⟩:=by rfl
def avX(x:O):wpOp E (.box x) tm σ K=match(x.ev tm).cells with|some l=>K (.c (.ptr σ.aj 0)) ⟨hset σ.h σ.aj ⟨l,none⟩,σ.aj+1⟩|none=>False:=by grind[wpOp,qh,wM.kind,oz,lT]
def arG(bytes:Nat)(z:List B)(l c:O):wpOp E (.Lm bytes z l c) tm σ K=match KP (l.ev tm),KP (c.ev tm)with
  |some n,some m=>(bif Nat.ble n m&&(Nat.ble (bytes*m) 281474976710656&&Nat.ble m 1073741824)then K (.c (.sl σ.aj 0 n (.ex m))) ⟨hset σ.h σ.aj ⟨rep z m,none⟩,σ.aj+1⟩else False)
  |_,_=>False:=by
 grind[wpOp,qh,wM.kind,oz,lT]
def avY(e n:Nat)(z:List B)(ps:List (Nat×Nat×O))(h:n*e<=16777216)(h':n<=16777216):wpOp E (.bsl e n z ps) tm σ K=match Dk (rep z n) (ps.map λp=>(p.1,p.2.1,p.2.2.ev tm))with
  |some l=>K (.c (.sl σ.aj 0 n (.ex n))) ⟨hset σ.h σ.aj ⟨l,none⟩,σ.aj+1⟩|none=>False:=by
 grind[wpOp,qh,wM.kind,oz,lT,xZ]
def amG(n:Nat)(a x:O):wpOp E (.store n a x) tm σ K=match a.ev tm,(x.ev tm).cells with
  |.c (.ptr b o),some vs=>(bif Nat.beq vs.length n then(match sto σ.h b o vs with|some h=>K .und ⟨h,σ.aj⟩|none=>False)else False)
  |_,_=>False:=by
 grind[wpOp,qh,wM.kind,ae1]
def arH(g:O)(args:List O):wpOp E (.call g args) tm σ K=match g.ev tm with|.fn f caps=>aC E f (args.map (·.ev tm)++caps.map .c) σ K|_=>False:=rfl
end
end Go.Proofs.Xe
end
