import Derived.Test.YthkggcakedkboaaGreatDoorYd9
set_option linter.all false
set_option maxRecDepth 100000
noncomputable section
namespace Go.Proofs.Xe
open Go.RowKit Go.Proofs.Ins
def szK:Nat:=60000000
def Sz(q:Rat):Prop:=Sm szK q
def D9(a:Nat):Prop:=(bn a).size<=60000000
def rV(q:Rat):V:=.agg [.bool (rn q),.str (rs q),.str (rd q)]
def rbV(q:Rat)(b:Bool):V:=.aY (rV q) (.aY (.c (.bool b)) .tnil)
def iV(i:Int):V:=.c (.int .i64 i)
def Sz.sizes{p:Rat}(h:Sz p):(rs p).size<=60000000/\(rd p).size<=60000000:=⟨Sm.rs h,Sm.rd h⟩
def YG{a b:Nat}(h:bn a=bn b):a=b:=by rw[<-gV a,<-gV b,h]
abbrev kb(b:Bool):O:=.k (.c (.bool b))
abbrev d(n:Nat):Option Nat:=some n
abbrev s0:B:=.str ⟨#[]⟩
abbrev i0:B:=.int .i64 (.ofNat 0)
def Pm(c:Bool)(R:Rat->Rat->V):List V->Option V
 |[.agg [.bool n,.str s,.str d],.agg [.bool m,.str t,.str e]]=>if(s.size+d.size<=130000000/\t.size+e.size<=130000000)/\(c=true->Pv n s d/\Pv m t e)then some (R (rq n s d) (rq m t e))else none
 |_=>none
def Yv(c:Bool)(R:Rat->V):List V->Option V
 |[.agg [.bool n,.str s,.str d]]=>if s.size+d.size<=130000000/\(c=true->Pv n s d)then some (R (rq n s d))else none
 |_=>none
def kVd:List V->Option V
 |[.agg [.bool n,.str s,.str d]]=>if s.size+d.size<=130000000 then some (.c (.bool (decide (Pv n s d))))else none
 |_=>none
def kN1(R:Nat->V):List V->Option V
 |[.c (.str s)]=>if s.size<=1073741824 then some (R (nv s))else none
 |_=>none
def Yw(R:Nat->Nat->Option V):List V->Option V
 |[.c (.str s),.c (.str t)]=>if s.size<=1073741824/\t.size<=1073741824 then R (nv s) (nv t)else none
 |_=>none
def kB3(R:Bool->Nat->Nat->Option V):List V->Option V
 |[.c (.bool n),.c (.str s),.c (.str t)]=>if s.size<=1073741824/\t.size<=1073741824 then R n (nv s) (nv t)else none
 |_=>none
def kI(k:IntKind)(l h:Int)(R:Int->V):List V->Option V
 |[.c (.int j i)]=>if j=k/\l<=i/\i<=h then some (R i)else none
 |_=>none
def kS(R:Rat->V):List V->Option V
 |[.agg [.bool n,.str s,.str d]]=>if smB n s d=true then some (R (rq n s d))else none
 |_=>none
def kQ(R:Int->Int->V):List V->Option V
 |[.c (.int j i),.c (.int k m)]=>if(j=.i64/\0<=i/\i<23)/\k=.i64/\0<m/\m<7 then some (R i m)else none
 |_=>none
def Cj(c:Bool)(R:Rat->Rat->V){p q:Rat}(hp:Sz p)(hq:Sz q):Pm c R [rV p,rV q]=some (R p q):=by unfold Pm rV;have:=hp.sizes;have:=hq.sizes;simp only;rw[ab ⟨jb,λ_=>⟨BM p,BM q⟩⟩,EO,EO]
def Zj(c:Bool)(R:Rat->V){p:Rat}(hp:Sz p):Yv c R [rV p]=some (R p):=by unfold Yv rV;have:=hp.sizes;simp only;rw[ab ⟨jb,λ_=>BM p⟩,EO]
def ape{p:Rat}(hp:Sz p):kVd [rV p]=some (.c (.bool true)):=by unfold kVd rV;have:=hp.sizes;simp only;rw[ab jb,bw (BM p)]
def Np(R:Nat->Nat->Option V){a b:Nat}{v:V}(ha:D9 a)(hb:D9 b)(h:R a b=some v):Yw R [.c (.str (bn a)),.c (.str (bn b))]=some v:=by unfold Yw D9 at*;simp only;rw[ab jb,gV,gV,h]
def apf(R:Bool->Nat->Nat->Option V){n:Bool}{a b:Nat}{v:V}(ha:D9 a)(hb:D9 b)(h:R n a b=some v):kB3 R [.c (.bool n),.c (.str (bn a)),.c (.str (bn b))]=some v:=by unfold kB3 D9 at*;simp only;rw[ab jb,gV,gV,h]
noncomputable section
def jv(f:Nat):List V->Option V:=
 bif Nat.beq f 76 then(kN1 λa=>.c (.str (bn a)))else
 bif Nat.beq f 39 then(Yw λa b=>some (iV (qh a b)))else
 bif Nat.beq f 81 then(Yw λa b=>some (.c (.str (bn (a+b)))))else
 bif Nat.beq f 40 then(Yw λa b=>some (.c (.str (bn (a*b)))))else
 bif Nat.beq f 83 then(Yw λa b=>some (.c (.str (bn (Nat.gcd a b)))))else
 bif Nat.beq f 82 then(Yw λa b=>some (if b<=a then .aY (.c (.str (bn (a-b)))) (.aY (.c (.bool true)) .tnil)else .aY (.c (.str ⟨#[]⟩)) (.aY (.c (.bool false)) .tnil)))else
 bif Nat.beq f 84 then(Yw λa b=>if 0<b then some (.aY (.c (.str (bn (a/b)))) (.aY (.c (.str (bn (a%b)))) (.aY (.c (.bool true)) .tnil)))else none)else
 bif Nat.beq f 85 then(kI .u64 0 18446744073709551615 λi=>.c (.str (bn i.toNat)))else
 bif Nat.beq f 49 then(kI .i64 0 30 λi=>rV i)else
 bif Nat.beq f 48 then(kQ λi j=>rV ((i:Rat)/(j:Rat)))else
 bif Nat.beq f 26 then(kI .u16 0 65535 λi=>rV (amt i.toNat))else
 bif Nat.beq f 41 then(Yv true λp=>.c (.str (bn p.den)))else
 bif Nat.beq f 75 then kVd else
 bif Nat.beq f 37 then(Yv false λp=>rV p)else
 bif Nat.beq f 45 then(kB3 λn a b=>if 0<b then some (rV (fr n a b))else none)else
 bif Nat.beq f 151 then(kB3 λn a b=>some (if b=0 then rbV 0 false else rbV (fr n a b) true))else
 bif Nat.beq f 46 then(kI .i64 (-9223372036854775808) 9223372036854775807 λi=>.c (.str (bn i.natAbs)))else
 bif Nat.beq f 23 then(kI .i64 (-9223372036854775808) 9223372036854775807 λi=>rV i)else
 bif Nat.beq f 38 then(Yv true λp=>iV (sg p))else
 bif Nat.beq f 17 then(Yv false λp=>iV (sg p))else
 bif Nat.beq f 98 then(Yv true λp=>rV (-p))else
 bif Nat.beq f 44 then(Pm true λp q=>rV (p+q))else
 bif Nat.beq f 22 then(Pm false λp q=>rV (p+q))else
 bif Nat.beq f 60 then(Pm false λp q=>rV (p-q))else
 bif Nat.beq f 117 then(Pm false λp q=>rV (p*q))else
 bif Nat.beq f 115 then(Pm false λp q=>rbV (G9 p q) (okR q))else
 bif Nat.beq f 16 then(Pm false λp q=>iV (pV p q))else
 bif Nat.beq f 136 then(Pm false λp q=>rV (I8 p q))else
 bif Nat.beq f 59 then(Pm false λp q=>rV (He p q))else
 λ_=>none
end
class jF (E:Env) (f:Nat):Prop where
 o:∀args v σ,jv f args=some v->E.VD f args σ=some (v,σ)
def af8{E:Env}{f:Nat}{args:List V}{v:V}{σ σ2:St}{K:V->St->Prop}(h:E.VD f args σ=some (v,σ2)):aC E f args σ K=K v σ2:=by
 refine propext ⟨λ⟨n,v',σ',h1,h2⟩=>?_,λhk=>V7 h hk⟩;have h3:iP E 1 f args σ=some (v,σ2):=by rw[iP];unfold GH;rw[h]
 have a:=ni (show n<=n+1 by omega) f args σ _ h1;have b:=ni (show 1<=n+1 by omega) f args σ _ h3;rw[a]at b;cases b;exact h2
def aS{E:Env}{f:Nat}[hE:jF E f]{args:List V}{v:V}{σ:St}{K:V->St->Prop}(h:jv f args=some v):aC E f args σ K=K v σ:=af8 (hE.o args v σ h)
def Nr(P:Program)(f:Nat):Bool:=match P.funcs[f]? with|some fn=> !fn.body.isNone&& !(fn.name== "runtime.NumGoroutine")|none=>false
def yK{P:Program}{f:Nat}(h:Nr P f=true):okF P f:=by
 unfold Nr at h;split at h
 .next fn hfn=>
  simp only[af,gj]at h;exact⟨fn,hfn,h.1,h.2⟩
 .cases h
def Ct(P:Program)(f:Nat)(v:V)(bI:Array Value)(w:World):Prop:=
 Calls P f bI w λe w'=>∃cv,e=.returned cv/\Below w.heap.size w w'/\∀φ',RV φ' v cv
class zy (f:Nat):Prop where
 k:okF Tryz.prog f
 c:∀args v,jv f args=some v->∀(φ:Ph) (bI:Array Value) (w:World),GN φ args bI.toList->Ct Tryz.prog f v bI w
class OkL (l:List Nat):Prop where
 o:∀f,l.contains f=true->zy f
class Mm (f:Nat) (l:List Nat):Prop where
 h:l.contains f=true
instance:OkL []:=⟨nofun⟩
instance {f:Nat}{l:List Nat} [h:zy f] [hl:OkL l]:OkL (f::l):=⟨λg hg=>by
 rw[List.contains_cons,Bool.or_eq_true]at hg;rcases hg with hg|hg
 .rw[eq_of_beq hg];exact h
 .exact hl.o g hg⟩
instance {f:Nat}{l:List Nat}:Mm f (f::l):=⟨by simp⟩
instance {f g:Nat}{l:List Nat} [h:Mm f l]:Mm f (g::l):=⟨by simpa using .inr (by simpa using h.h)⟩
def Eb(l:List Nat):Env:=⟨tF Tryz.prog,λf args σ=>bif l.contains f then(match jv f args with|some v=>some (v,σ)|none=>none)else none⟩
instance {f:Nat}{l:List Nat} [h:Mm f l]:jF (Eb l) f:=⟨λargs v σ hv=>by unfold Eb;dsimp only;rw[h.h,hv];rfl⟩
def zy.VD{f:Nat}(h:zy f){args:List V}{σ σ':St}{v:V}(ho:(match jv f args with|some v=>some (v,σ)|none=>none)=some (v,σ')):okF Tryz.prog f/\∀(N:Nat) (w0:World) (φ:Ph) (w:World) (bI:Array Value),Rel N w0 φ σ w->GN φ args bI.toList->
  Calls Tryz.prog f bI w λe w'=>∃cv,e=.returned cv/\∃φ',Ext σ.aj φ φ'/\Rel N w0 φ' σ' w'/\RV φ' v cv/\σ.aj<=σ'.aj:=by
 split at ho
 .next u hu=>
  cases ho
  refine⟨h.k,λN w0 φ w bI hR ha=>(h.c _ _ hu φ bI w ha).mono λe w' he=>?_⟩
  obtain⟨cv,rfl,hb,hv⟩:=he
  exact⟨cv,rfl,φ,Ext.refl _ _,hR.below hb,hv φ,jp⟩
 .cases ho
def Qw{l:List Nat}[h:OkL l]:Nc Tryz.prog (Eb l):=by
 refine⟨λf F h=>afZ h,λf args σ v σ' ho=>?_⟩;unfold Eb at ho;dsimp only at ho;cases hc:l.contains f with
 |false=>rw[hc]at ho;cases ho
 |true=>rw[hc]at ho;exact(h.o f hc).VD ho
def fB:B->Bool
 |.int ..|.bool _|.str _=>true
 |_=>false
def fV:V->Bool
 |.c x=>fB x
 |.agg l=>l.all fB
 |.aY a r=>fV a&&fV r
 |.tnil=>true
 |_=>false
section
variable {φ φ' : Ph}
def RB.flat{x:B}{v:Value}(h:fB x=true)(hv:RB φ x v):RB φ' x v:=by cases x<;>first|exact hv|cases h
def kJ.flat:∀{l:List B}{r:List Value},l.all fB=true->kJ φ l r->kJ φ' l r
 |[],[],_,_=>trivial
 |_::_,_::_,h,hv=>by rw[cG,af]at h;exact⟨hv.1.flat h.1,kJ.flat h.2 hv.2⟩
 |[],_::_,_,hv=>hv.elim
 |_::_,[],_,hv=>hv.elim
def RV.flat:∀{x:V}{v:Value},fV x=true->RV φ x v->RV φ' x v
 |.c _,_,h,hv=>RB.flat h hv
 |.agg _,_,h,⟨r,e,hr⟩=>⟨r,e,hr.flat h⟩
 |.aY _ _,_,h,⟨x,xs,e,h1,h2⟩=>by unfold fV at h;rw[af]at h;exact⟨x,xs,e,h1.flat h.1,h2.flat h.2⟩
 |.tnil,_,_,hv=>hv
def GN.flat:∀{l:List V}{r:List Value},l.all fV=true->GN φ l r->GN φ' l r
 |[],[],_,_=>trivial
 |_::_,_::_,h,hv=>by rw[cG,af]at h;exact⟨hv.1.flat h.1,GN.flat h.2 hv.2⟩
 |[],_::_,_,hv=>hv.elim
 |_::_,[],_,hv=>hv.elim
end
def awx(w:World):Rel w.heap.size w (λ_=>none) ⟨.leaf,0⟩ w:=
 ⟨jp,Below.refl _ _,nofun,nofun,nofun,nofun,λb _=>⟨rfl,Tr.Md b⟩⟩
def FH{E:Env}(hE:Nc Tryz.prog E){f:Nat}{args:List V}{v:V}(ha:args.all fV=true)(hv:fV v=true)(h:aC E f args ⟨.leaf,0⟩ λr _=>r=v)(φ:Ph)(bI:Array Value)(w:World)(hr:GN φ args bI.toList):Ct Tryz.prog f v bI w:=by obtain⟨n,r,σ',h1,rfl⟩:=h;refine(Qv hE (by kernel_rfl) h1 (awx w) (hr.flat ha)).mono λe w' he=>?_;obtain⟨cv,rfl,φ',-,hR,hc,-⟩:=he;exact⟨cv,rfl,hR.bel,λφ=>hc.flat hv⟩
structure Qx(k:Nat) where
 a:AF
 g:tG Tryz.prog k=some a:=by conv=>(lhs;reduce;simp only[anW,ati])
 i:VW Tryz.prog k a=true:=by kernel_rfl
def qy{f:Nat}{l:List Nat}(b:Qx f)(hl:l.contains f=false){args:List V}{σ:St}{K:V->St->Prop}(h:bH (Eb l) b.a.body (ini args) σ (Zi b.a.res K)):aC (Eb l) f args σ K:=
 aQ (by unfold Eb;dsimp only;rw[hl];rfl) (anV b.g b.i) h
section
variable {E:Env} {σ:St} {K:V→St→Prop}
def vH:jv 76=kN1 (λa=>.c (.str (bn a))):=rfl
def yg:jv 39=Yw (λa b=>some (iV (qh a b))):=rfl
def yL:jv 81=Yw (λa b=>some (.c (.str (bn (a+b))))):=rfl
def apg[jF E 81](a b:Nat)(h1:D9 a)(h2:D9 b):aC E 81 [.c (.str (bn a)),.c (.str (bn b))] σ K=K (.c (.str (bn (a+b)))) σ:=aS ((ce yL _).trans (Np _ h1 h2 (by first|rfl|simp)))
def oO:jv 40=Yw (λa b=>some (.c (.str (bn (a*b))))):=rfl
def V9[jF E 40](a b:Nat)(h1:D9 a)(h2:D9 b):aC E 40 [.c (.str (bn a)),.c (.str (bn b))] σ K=K (.c (.str (bn (a*b)))) σ:=aS ((ce oO _).trans (Np _ h1 h2 (by first|rfl|simp)))
def yM:jv 83=Yw (λa b=>some (.c (.str (bn (Nat.gcd a b))))):=rfl
def aph[jF E 83](a b:Nat)(h1:D9 a)(h2:D9 b):aC E 83 [.c (.str (bn a)),.c (.str (bn b))] σ K=K (.c (.str (bn (Nat.gcd a b)))) σ:=aS ((ce yM _).trans (Np _ h1 h2 (by first|rfl|simp)))
def oP:jv 82=Yw (λa b=>some (if b<=a then .aY (.c (.str (bn (a-b)))) (.aY (.c (.bool true)) .tnil)else .aY (.c (.str ⟨#[]⟩)) (.aY (.c (.bool false)) .tnil))):=rfl
def Wh[jF E 82](a b:Nat)(h1:D9 a)(h2:D9 b):aC E 82 [.c (.str (bn a)),.c (.str (bn b))] σ K=K (if b<=a then .aY (.c (.str (bn (a-b)))) (.aY (.c (.bool true)) .tnil)else .aY (.c (.str ⟨#[]⟩)) (.aY (.c (.bool false)) .tnil)) σ:=aS ((ce oP _).trans (Np _ h1 h2 (by first|rfl|simp)))
def sF:jv 84=Yw (λa b=>if 0<b then some (.aY (.c (.str (bn (a/b)))) (.aY (.c (.str (bn (a%b)))) (.aY (.c (.bool true)) .tnil)))else none):=rfl
def adr[jF E 84](a b:Nat)(h1:D9 a)(h2:D9 b)(h0:0<b):aC E 84 [.c (.str (bn a)),.c (.str (bn b))] σ K=K (.aY (.c (.str (bn (a/b)))) (.aY (.c (.str (bn (a%b)))) (.aY (.c (.bool true)) .tnil))) σ:=aS ((ce sF _).trans (Np _ h1 h2 (ab h0)))
def oQ:jv 85=kI .u64 0 18446744073709551615 (λi=>.c (.str (bn i.toNat))):=rfl
def Wi[jF E 85](x:Nat)(h1:x<18446744073709551616):aC E 85 [.c (.int .u64 (.ofNat x))] σ K=K (.c (.str (bn x))) σ:=aS ((ce oQ _).trans (ab ⟨rfl,by simp,by simp only[dx];omega⟩))
def Hl:jv 49=kI .i64 0 30 (λi=>rV i):=rfl
def af9[jF E 49](x:Nat)(h1:x<=30):aC E 49 [.c (.int .i64 (.ofNat x))] σ K=K (.agg [.bool (rn ((Int.ofNat x:Int):Rat)),.str (rs ((Int.ofNat x:Int):Rat)),.str (rd ((Int.ofNat x:Int):Rat))]) σ:=aS ((ce Hl _).trans (ab ⟨rfl,by simp,by simp only[dx];omega⟩))
def Tv:jv 48=kQ (λi j=>rV ((i:Rat)/(j:Rat))):=rfl
def E8:jv 26=kI .u16 0 65535 (λi=>rV (amt i.toNat)):=rfl
def ads[jF E 26](x:Nat)(h1:x<=65535):aC E 26 [.c (.int .u16 (.ofNat x))] σ K=K (.agg [.bool (rn (amt x)),.str (rs (amt x)),.str (rd (amt x))]) σ:=aS ((ce E8 _).trans (ab ⟨rfl,by simp,by simp only[dx];omega⟩))
def eY:jv 41=Yv true (λp=>.c (.str (bn p.den))):=rfl
def sH:jv 75=kVd:=rfl
def abf[jF E 75](p:Rat)(hp:Sz p):aC E 75 [.agg [.bool (rn p),.str (rs p),.str (rd p)]] σ K=K (.c (.bool true)) σ:=aS ((ce sH _).trans (ape hp))
def nK:jv 37=Yv false (λp=>rV p):=rfl
def akK[jF E 37](p:Rat)(hp:Sz p):aC E 37 [.agg [.bool (rn p),.str (rs p),.str (rd p)]] σ K=K (.agg [.bool (rn p),.str (rs p),.str (rd p)]) σ:=aS ((ce nK _).trans (Zj _ _ hp))
def Wj[jF E 37](n:Bool)(s d:ByteArray)(h1:s.size+d.size<=130000000):aC E 37 [.agg [.bool n,.str s,.str d]] σ K=K (.agg [.bool (rn (rq n s d)),.str (rs (rq n s d)),.str (rd (rq n s d))]) σ:=aS ((ce nK _).trans (ab ⟨h1,nofun⟩))
def wP:jv 45=kB3 (λn a b=>if 0<b then some (rV (fr n a b))else none):=rfl
def uI:jv 151=kB3 (λn a b=>some (if b=0 then rbV 0 false else rbV (fr n a b) true)):=rfl
def apj[jF E 151](n:Bool)(a b:Nat)(h1:D9 a)(h2:D9 b)(h0:0<b):aC E 151 [.c (.bool n),.c (.str (bn a)),.c (.str (bn b))] σ K=K (.aY (.agg [.bool (rn (fr n a b)),.str (rs (fr n a b)),.str (rd (fr n a b))]) (.aY (.c (.bool true)) .tnil)) σ:=aS ((ce uI _).trans (apf _ h1 h2 (by rw[ae jb];rfl)))
def um:jv 46=kI .i64 (-9223372036854775808) 9223372036854775807 (λi=>.c (.str (bn i.natAbs))):=rfl
def Cm:jv 23=kI .i64 (-9223372036854775808) 9223372036854775807 (λi=>rV i):=rfl
def atj[jF E 23](i:Int)(h1: -9223372036854775808<=i)(h2:i<=9223372036854775807):aC E 23 [.c (.int .i64 i)] σ K=K (.agg [.bool (rn i),.str (rs i),.str (rd i)]) σ:=aS ((ce Cm _).trans (ab ⟨rfl,h1,h2⟩))
def jG:jv 38=Yv true (λp=>iV (sg p)):=rfl
def uJ:jv 17=Yv false (λp=>iV (sg p)):=rfl
def apk[jF E 17](p:Rat)(hp:Sz p):aC E 17 [.agg [.bool (rn p),.str (rs p),.str (rd p)]] σ K=K (.c (.int .i64 (sg p))) σ:=aS ((ce uJ _).trans (Zj _ _ hp))
def akL[jF E 17](n:Bool)(s d:ByteArray)(h1:s.size+d.size<=130000000):aC E 17 [.agg [.bool n,.str s,.str d]] σ K=K (.c (.int .i64 (sg (rq n s d)))) σ:=aS ((ce uJ _).trans (ab ⟨h1,nofun⟩))
def qA:jv 98=Yv true (λp=>rV (-p)):=rfl
def aga[jF E 98](p:Rat)(hp:Sz p):aC E 98 [.agg [.bool (rn p),.str (rs p),.str (rd p)]] σ K=K (.agg [.bool (rn (-p)),.str (rs (-p)),.str (rd (-p))]) σ:=aS ((ce qA _).trans (Zj _ _ hp))
def qB:jv 44=Pm true (λp q=>rV (p+q)):=rfl
def atl[jF E 44](p q:Rat)(hp:Sz p)(hq:Sz q):aC E 44 [.agg [.bool (rn p),.str (rs p),.str (rd p)],.agg [.bool (rn q),.str (rs q),.str (rd q)]] σ K=K (.agg [.bool (rn (p+q)),.str (rs (p+q)),.str (rd (p+q))]) σ:=aS ((ce qB _).trans (Cj _ _ hp hq))
def wQ:jv 22=Pm false (λp q=>rV (p+q)):=rfl
def atm[jF E 22](p q:Rat)(hp:Sz p)(hq:Sz q):aC E 22 [.agg [.bool (rn p),.str (rs p),.str (rd p)],.agg [.bool (rn q),.str (rs q),.str (rd q)]] σ K=K (.agg [.bool (rn (p+q)),.str (rs (p+q)),.str (rd (p+q))]) σ:=aS ((ce wQ _).trans (Cj _ _ hp hq))
def apl[jF E 22](n m:Bool)(s d t e:ByteArray)(h1:s.size+d.size<=130000000)(h2:t.size+e.size<=130000000):aC E 22 [.agg [.bool n,.str s,.str d],.agg [.bool m,.str t,.str e]] σ K=K (.agg [.bool (rn ((rq n s d)+(rq m t e))),.str (rs ((rq n s d)+(rq m t e))),.str (rd ((rq n s d)+(rq m t e)))]) σ:=aS ((ce wQ _).trans (ab ⟨⟨h1,h2⟩,nofun⟩))
def nU:jv 60=Pm false (λp q=>rV (p-q)):=rfl
def Zl[jF E 60](p q:Rat)(hp:Sz p)(hq:Sz q):aC E 60 [.agg [.bool (rn p),.str (rs p),.str (rd p)],.agg [.bool (rn q),.str (rs q),.str (rd q)]] σ K=K (.agg [.bool (rn (p-q)),.str (rs (p-q)),.str (rd (p-q))]) σ:=aS ((ce nU _).trans (Cj _ _ hp hq))
def Wn[jF E 60](n m:Bool)(s d t e:ByteArray)(h1:s.size+d.size<=130000000)(h2:t.size+e.size<=130000000):aC E 60 [.agg [.bool n,.str s,.str d],.agg [.bool m,.str t,.str e]] σ K=K (.agg [.bool (rn ((rq n s d)-(rq m t e))),.str (rs ((rq n s d)-(rq m t e))),.str (rd ((rq n s d)-(rq m t e)))]) σ:=aS ((ce nU _).trans (ab ⟨⟨h1,h2⟩,nofun⟩))
def vI:jv 117=Pm false (λp q=>rV (p*q)):=rfl
def Zm[jF E 117](p q:Rat)(hp:Sz p)(hq:Sz q):aC E 117 [.agg [.bool (rn p),.str (rs p),.str (rd p)],.agg [.bool (rn q),.str (rs q),.str (rd q)]] σ K=K (.agg [.bool (rn (p*q)),.str (rs (p*q)),.str (rd (p*q))]) σ:=aS ((ce vI _).trans (Cj _ _ hp hq))
def yh:jv 115=Pm false (λp q=>rbV (G9 p q) (okR q)):=rfl
def agb[jF E 115](p q:Rat)(hp:Sz p)(hq:Sz q):aC E 115 [.agg [.bool (rn p),.str (rs p),.str (rd p)],.agg [.bool (rn q),.str (rs q),.str (rd q)]] σ K=K (.aY (.agg [.bool (rn (G9 p q)),.str (rs (G9 p q)),.str (rd (G9 p q))]) (.aY (.c (.bool (okR q))) .tnil)) σ:=aS ((ce yh _).trans (Cj _ _ hp hq))
def lK:jv 16=Pm false (λp q=>iV (pV p q)):=rfl
def adt[jF E 16](p q:Rat)(hp:Sz p)(hq:Sz q):aC E 16 [.agg [.bool (rn p),.str (rs p),.str (rd p)],.agg [.bool (rn q),.str (rs q),.str (rd q)]] σ K=K (.c (.int .i64 (pV p q))) σ:=aS ((ce lK _).trans (Cj _ _ hp hq))
def wR:jv 136=Pm false (λp q=>rV (I8 p q)):=rfl
def atn[jF E 136](p q:Rat)(hp:Sz p)(hq:Sz q):aC E 136 [.agg [.bool (rn p),.str (rs p),.str (rd p)],.agg [.bool (rn q),.str (rs q),.str (rd q)]] σ K=K (.agg [.bool (rn (I8 p q)),.str (rs (I8 p q)),.str (rd (I8 p q))]) σ:=aS ((ce wR _).trans (Cj _ _ hp hq))
def apm[jF E 136](n m:Bool)(s d t e:ByteArray)(h1:s.size+d.size<=130000000)(h2:t.size+e.size<=130000000):aC E 136 [.agg [.bool n,.str s,.str d],.agg [.bool m,.str t,.str e]] σ K=K (.agg [.bool (rn (I8 (rq n s d) (rq m t e))),.str (rs (I8 (rq n s d) (rq m t e))),.str (rd (I8 (rq n s d) (rq m t e)))]) σ:=aS ((ce wR _).trans (ab ⟨⟨h1,h2⟩,nofun⟩))
def wS:jv 59=Pm false (λp q=>rV (He p q)):=rfl
def ato[jF E 59](p q:Rat)(hp:Sz p)(hq:Sz q):aC E 59 [.agg [.bool (rn p),.str (rs p),.str (rd p)],.agg [.bool (rn q),.str (rs q),.str (rd q)]] σ K=K (.agg [.bool (rn (He p q)),.str (rs (He p q)),.str (rd (He p q))]) σ:=aS ((ce wS _).trans (Cj _ _ hp hq))
def apn[jF E 59](n m:Bool)(s d t e:ByteArray)(h1:s.size+d.size<=130000000)(h2:t.size+e.size<=130000000):aC E 59 [.agg [.bool n,.str s,.str d],.agg [.bool m,.str t,.str e]] σ K=K (.agg [.bool (rn (He (rq n s d) (rq m t e))),.str (rs (He (rq n s d) (rq m t e))),.str (rd (He (rq n s d) (rq m t e)))]) σ:=aS ((ce wS _).trans (ab ⟨⟨h1,h2⟩,nofun⟩))
end
end Go.Proofs.Xe
namespace Go.Proofs.Xe
open Go.RowKit Go.Proofs.Ins
def adu(tm:Tr V)(d:Nat)(v:V):Tr.ah (Ew tm (some d) v) d=v:=by grind[Tr.ah,Ew,Tr.tJ]
def akM(tm:Tr V)(d j:Nat)(v:V)(h:j≠d):Tr.ah (Ew tm (some d) v) j=Tr.ah tm j:=by grind[Tr.ah,Ew,Tr.tJ]
def adv(tm:Tr V)(v:V):Ew tm none v=tm:=rfl
def adw(a:V)(l:List V):Tr.ah (ini (a::l)) 0=a:=by grind[Tr.ah,D8]
def adx(a b:V)(l:List V):Tr.ah (ini (a::b::l)) 1=b:=by grind[Tr.ah,D8]
def ady(a b c:V)(l:List V):Tr.ah (ini (a::b::c::l)) 2=c:=by grind[Tr.ah,D8]
def adz(a b c d:V)(l:List V):Tr.ah (ini (a::b::c::d::l)) 3=d:=by grind[Tr.ah,D8]
def adA(a b c d e:V)(l:List V):Tr.ah (ini (a::b::c::d::e::l)) 4=e:=by grind[Tr.ah,D8]
def adB(a b c d e f:V)(l:List V):Tr.ah (ini (a::b::c::d::e::f::l)) 5=f:=by grind[Tr.ah,D8]
def awy(tm:Tr V)(i:Nat):O.ev tm (.t i)=Tr.ah tm i:=rfl
def awz(tm:Tr V)(v:V):O.ev tm (.k v)=v:=rfl
def z3(l:List B):(B.bool false::s0::s0::l)=(.bool (rn 0):: .str (rs 0):: .str (rd 0)::l):=rfl
def hset(h:Tr Bk)(b:Nat)(k:Bk):Tr Bk:=h.set b (some k)
theorem aA(h:Tr Bk)(b:Nat)(k:Bk):hset h b k b=some k:=by grind[hset,Tr.tJ]
theorem ak(h:Tr Bk)(b j:Nat)(k:Bk)(e:j≠b):hset h b k j=h j:=by grind[hset,Tr.tJ]
def ld(h:Tr Bk)(b o n:Nat)(g:Bool):Option V:=match h b with|some k=>bif k.rd then zk k.cells o n g else none|none=>none
def sto(h:Tr Bk)(b o:Nat)(vs:List B):Option (Tr Bk):=match h b with
 |some k=>(match bif k.pl then xQ k.cells o vs else none with|some l=>some (hset h b ⟨l,k.opn⟩)|none=>none)
 |none=>none
def agc(n:Nat)(g:Bool)(x:O)(tm:Tr V)(σ:St):aa3 n g x tm σ=match x.ev tm with|.c (.ptr b o)=>ld σ.h b o n g|_=>none:=rfl
theorem adC(n:Nat)(a x:O)(tm:Tr V)(σ:St):uh (.store n a x) tm σ=match a.ev tm,(x.ev tm).cells with
  |.c (.ptr b o),some vs=>bif Nat.beq vs.length n then(match sto σ.h b o vs with|some h=>some (.und,⟨h,σ.aj⟩)|none=>none)else none
  |_,_=>none:=by
 unfold uh sto
 dsimp only
 generalize O.ev tm a=va
 generalize (O.ev tm x).cells=vc
 cases vc with
 |none=>simp
 |some vs=>
  split
  .next b o vs' e=>
   cases e
   dsimp only
   cases Nat.beq vs.length n with
   |false=>rfl
   |true=>
    simp only[cj]
    cases σ.h b with
    |none=>rfl
    |some k=>
     dsimp only
     cases(bif k.pl then xQ k.cells o vs else none)with
     |none=>rfl
     |some l=>rfl
  simp
theorem jH(σ:St)(k:Bk):σ.new k=some (σ.aj,⟨hset σ.h σ.aj k,σ.aj+1⟩):=by rfl
def akN(h:Tr Bk)(b:Nat)(k:Bk)(o n:Nat)(g:Bool):ld (hset h b k) b o n g=bif k.rd then zk k.cells o n g else none:=by unfold ld;rw[aA]
def atp(h:Tr Bk)(b j:Nat)(k:Bk)(o n:Nat)(g:Bool)(e:j≠b):ld (hset h b k) j o n g=ld h j o n g:=by grind[ld,ak]
def agd(h:Tr Bk)(b:Nat)(k:Bk)(o:Nat)(vs:List B):sto (hset h b k) b o vs=match bif k.pl then xQ k.cells o vs else none with|some l=>some (hset (hset h b k) b ⟨l,k.opn⟩)|none=>none:=by unfold sto;rw[aA]
def apo(h:Tr Bk)(b j:Nat)(k:Bk)(o:Nat)(vs:List B)(e:j≠b):sto (hset h b k) j o vs=match h j with|some k'=>(match bif k'.pl then xQ k'.cells o vs else none with|some l=>some (hset (hset h b k) j ⟨l,k'.opn⟩)|none=>none)|none=>none:=by grind[sto,ak]
def awC{α:Sort _}(a b:α):(bif true then a else b)=a:=rfl
def awD{α:Sort _}(a b:α):(bif false then a else b)=b:=rfl
theorem Fa{a b:Nat}(h:a<b):Nat.blt a b=true:=eZ h
theorem uo{a b:Nat}(h:a<=b):Nat.ble a b=true:=eZ h
theorem Wp(a:Nat):Nat.beq a a=true:=by simp
theorem Ns{a b:Nat}(h:a≠b):Nat.beq a b=false:=by grind[Nat.eq_of_beq_eq_true]
theorem Ho{n:Nat}(h:n<=9223372036854775807):mkI .i64 (.ofNat n)=some (.c (.int .i64 (.ofNat n))):=by grind[mkI,afB,IQ,uo]
def add_ofNat(a b:Nat):(Int.ofNat a+Int.ofNat b)=Int.ofNat (a+b):=rfl
def aG(a b:Nat):decide (Int.ofNat a<Int.ofNat b)=decide (a<b):=by simp
def WF(σ:St):Prop:=∀b,σ.aj<=b->σ.h b=none
structure Fr(σ σ':St):Prop where
 le:σ.aj<=σ'.aj
 wf:WF σ'
 old:∀b,b<σ.aj->σ'.h b=σ.h b
theorem Fr.refl{σ:St}(h:WF σ):Fr σ σ:=⟨jp,h,λ_ _=>rfl⟩
def Fr.trans{σ σ' MS:St}(h:Fr σ σ')(h':Fr σ' MS):Fr σ MS:=⟨av h.le h'.le,h'.wf,λb hb=>(h'.old b (aE hb h.le)).trans (h.old b hb)⟩
def WF.lt{σ:St}(h:WF σ){b:Nat}{k:Bk}(hb:σ.h b=some k):b<σ.aj:=by refine Nat.lt_of_not_le λe=>?_;rw[h b e]at hb;cases hb
def WF.dw{σ:St}(h:WF σ){b o n:Nat}{g:Bool}{v:V}(hb:ld σ.h b o n g=some v):b<σ.aj:=by
 unfold ld at hb;split at hb
 .next k hk=>exact h.lt hk
 grind
theorem Fr.ld{σ σ':St}(h:WF σ)(hf:Fr σ σ'){b o n:Nat}{g:Bool}{v:V}(hb:Xe.ld σ.h b o n g=some v):Xe.ld σ'.h b o n g=some v:=by have hlt:=h.dw hb;unfold Xe.ld at hb⊢;rw[hf.old b hlt];exact hb
def Fr.get{σ σ':St}(h:WF σ)(hf:Fr σ σ'){b:Nat}{k:Bk}(hb:σ.h b=some k):σ'.h b=some k:=by rw[hf.old b (h.lt hb)];exact hb
def Fr.new{σ σ':St}(hf:Fr σ σ')(k:Bk):Fr σ ⟨hset σ'.h σ'.aj k,σ'.aj+1⟩:=
 ⟨Nat.le_succ_of_le hf.le,λb hb=>by
  have hb:σ'.aj+1<=b:=hb;show hset σ'.h σ'.aj k b=none;rw[ak _ _ _ _ jb];exact hf.wf b jb,λb hb=>by
  show hset σ'.h σ'.aj k b=_;have:=hf.le;rw[ak _ _ _ _ jb];exact hf.old b hb⟩
def Fr.set{σ σ':St}(hf:Fr σ σ'){b:Nat}(hb:σ.aj<=b)(hb2:b<σ'.aj)(k:Bk):Fr σ ⟨hset σ'.h b k,σ'.aj⟩:=
 ⟨hf.le,λj hj=>by
  have hj:σ'.aj<=j:=hj;show hset σ'.h b k j=none;rw[ak _ _ _ _ jb];exact hf.wf j hj,λj hj=>by
  show hset σ'.h b k j=_;rw[ak _ _ _ _ jb];exact hf.old j hj⟩
def HL(h:Tr Bk)(e:Nat)(v:B)(n:Nat)(G:Nat->List B):Prop:=
 (n=0/\v=.aV)\/∃b o c,v=.sl b o n c/\∀i,i<n->ld h b (o+i*e) e true=some (.agg (G i))
def HC(h:Tr Bk)(v:B)(n:Nat)(G:Nat->B):Prop:=
 (n=0/\v=.aV)\/∃b o c,v=.sl b o n c/\∀i,i<n->ld h b (o+i*1) 1 false=some (.c (G i))
def lenV:V->Option V
 |.c (.sl _ _ n _)=>some (.c (.int .i64 (.ofNat n)))
 |.c .aV=>some (.c (.int .i64 (.ofNat 0)))
 |_=>none
def akO(b o n:Nat)(c:Cap):lenV (.c (.sl b o n c))=some (.c (.int .i64 (.ofNat n))):=rfl
def adE:lenV (.c .aV)=some (.c (.int .i64 (.ofNat 0))):=rfl
def HL.len{h:Tr Bk}{e:Nat}{v:B}{n:Nat}{G:Nat->List B}(hl:HL h e v n G):lenV (.c v)=some (.c (.int .i64 (.ofNat n))):=by rcases hl with⟨rfl,rfl⟩|⟨b,o,c,rfl,-⟩<;>rfl
def HC.len{h:Tr Bk}{v:B}{n:Nat}{G:Nat->B}(hl:HC h v n G):lenV (.c v)=some (.c (.int .i64 (.ofNat n))):=by rcases hl with⟨rfl,rfl⟩|⟨b,o,c,rfl,-⟩<;>rfl
def HL.pos{h:Tr Bk}{e:Nat}{v:B}{n:Nat}{G:Nat->List B}(hl:HL h e v n G)(hn:0<n):∃b o c,v=.sl b o n c/\∀i,i<n->ld h b (o+i*e) e true=some (.agg (G i)):=by
 rcases hl with⟨rfl,-⟩|h
 .omega
 .exact h
def HC.pos{h:Tr Bk}{v:B}{n:Nat}{G:Nat->B}(hl:HC h v n G)(hn:0<n):∃b o c,v=.sl b o n c/\∀i,i<n->ld h b (o+i*1) 1 false=some (.c (G i)):=by
 rcases hl with⟨rfl,-⟩|h
 .omega
 .exact h
theorem HL.fr{σ σ':St}(hW:WF σ)(hf:Fr σ σ'){e:Nat}{v:B}{n:Nat}{G:Nat->List B}(hl:HL σ.h e v n G):HL σ'.h e v n G:=by
 rcases hl with h|⟨b,o,c,rfl,h⟩
 .exact .inl h
 .exact .inr ⟨b,o,c,rfl,λi hi=>hf.ld hW (h i hi)⟩
theorem HC.fr{σ σ':St}(hW:WF σ)(hf:Fr σ σ'){v:B}{n:Nat}{G:Nat->B}(hl:HC σ.h v n G):HC σ'.h v n G:=by
 rcases hl with h|⟨b,o,c,rfl,h⟩
 .exact .inl h
 .exact .inr ⟨b,o,c,rfl,λi hi=>hf.ld hW (h i hi)⟩
section
variable (E:Env)
def adF(tm:Tr V)(σ:St)(Q:Tr V->St->Prop):wpOps E [] tm σ Q=Q tm σ:=rfl
def wpOps_cons(o:AO)(r:List AO)(tm:Tr V)(σ:St)(Q:Tr V->St->Prop):wpOps E (o::r) tm σ Q=wpG E o tm σ λv σ'=>wpOps E r (Ew tm o.dst v) σ' Q:=rfl
variable (tm:Tr V) (σ:St) (K:V→St→Prop)
def Gf(o:Option V)(K:V->Prop):Prop:=match o with|some v=>K v|none=>False
def agf(v:V)(K:V->Prop):Gf (some v) K=K v:=rfl
theorem iq{op:vG}(h:op.kind=.q)(h2:∀g l,op≠.call g l):wpOp E op tm σ K=Gf (dh op tm σ) λv=>K v σ:=by unfold wpOp;grind[oC,Gf]
def apq(c a b:O):wpOp E (.pick c a b) tm σ K=Gf (match c.ev tm with|.c (.bool t)=>some (bif t then a.ev tm else b.ev tm)|_=>none) λv=>K v σ:=iq _ _ _ _ rfl λ_ _ h=>by cases h
def o_load(n:Nat)(g:Bool)(x:O):wpOp E (.load n g x) tm σ K=Gf (match x.ev tm with|.c (.ptr b o)=>ld σ.h b o n g|_=>none) λv=>K v σ:=iq _ _ _ _ rfl λ_ _ h=>by cases h
def akP(off:Nat)(x:O):wpOp E (.BP off x) tm σ K=Gf (match x.ev tm with|.c (.ptr b o)=>some (.c (.ptr b (o+off)))|_=>none) λv=>K v σ:=by rw[iq _ _ _ _ (by rfl) λ_ _ h=>by cases h];grind[dh,Y4,ql]
def akQ(off n:Nat)(g:Bool)(x:O):wpOp E (.field off n g x) tm σ K=Gf (match x.ev tm with|.agg l=>zk l off n g|_=>none) λv=>K v σ:=iq _ _ _ _ rfl λ_ _ h=>by cases h
def iaV(e:Nat)(v:V)(i:V):Option V:=match v,JL i with|.c (.sl b o n _),some j=>(bif Nat.blt j n then some (.c (.ptr b (o+j*e)))else none)|_,_=>none
def akR(e:Nat)(x i:O):wpOp E (.ET e x i) tm σ K=Gf (iaV e (x.ev tm) (i.ev tm)) λv=>K v σ:=by rw[iq _ _ _ _ (by rfl) λ_ _ h=>by cases h];unfold dh Y5 iaV;grind[ql]
def apr(e b o n j:Nat)(c:Cap)(h:j<n):iaV e (.c (.sl b o n c)) (.c (.int .i64 (.ofNat j)))=some (.c (.ptr b (o+j*e))):=by simp_all[iaV,JL,Fa]
def atq(i:Nat)(x:O):wpOp E (.ext i x) tm σ K=Gf (afD i x tm) λv=>K v σ:=iq _ _ _ _ rfl λ_ _ h=>by cases h
def agh:Nat->V->Option V
 |0,.aY a _=>some a
 |1,.aY _ (.aY a _)=>some a
 |2,.aY _ (.aY _ (.aY a _))=>some a
 |_,_=>none
def aps(i:Nat)(x:O)(tm:Tr V):afD i x tm=agh i (x.ev tm):=by unfold afD agh;grind
def apt(a r:V):agh 0 (.aY a r)=some a:=rfl
def apu(a b r:V):agh 1 (.aY a (.aY b r))=some b:=rfl
def apv(a b c r:V):agh 2 (.aY a (.aY b (.aY c r)))=some c:=rfl
def atr(b:BinOp)(x y:O):wpOp E (.bin b x y) tm σ K=Gf (nJ b (x.ev tm) (y.ev tm)) λv=>K v σ:=iq _ _ _ _ rfl λ_ _ h=>by cases h
def att(a b:Int):nJ .lss (.c (.int .i64 a)) (.c (.int .i64 b))=some (.c (.bool (decide (a<b)))):=rfl
def atu(a b:Int):nJ .gtr (.c (.int .i64 a)) (.c (.int .i64 b))=some (.c (.bool (decide (b<a)))):=rfl
def atv(a b:Int):nJ .leq (.c (.int .i64 a)) (.c (.int .i64 b))=some (.c (.bool (decide (a<=b)))):=rfl
def atw(a b:Int):nJ .geq (.c (.int .i64 a)) (.c (.int .i64 b))=some (.c (.bool (decide (b<=a)))):=rfl
def atx(a b:Int):nJ .eql (.c (.int .i64 a)) (.c (.int .i64 b))=some (.c (.bool (decide (a=b)))):=rfl
def aty(a b:Int):nJ .neq (.c (.int .i64 a)) (.c (.int .i64 b))=some (.c (.bool (!decide (a=b)))):=rfl
def apw(a b:ByteArray):nJ .eql (.c (.str a)) (.c (.str b))=some (.c (.bool (decide (a=b)))):=rfl
def apx(a b:ByteArray):nJ .neq (.c (.str a)) (.c (.str b))=some (.c (.bool (!decide (a=b)))):=rfl
def atz(a b:Nat)(h:a+b<=9223372036854775807):nJ .add (.c (.int .i64 (.ofNat a))) (.c (.int .i64 (.ofNat b)))=some (.c (.int .i64 (.ofNat (a+b)))):=by show mkI .i64 (Int.ofNat a+Int.ofNat b)=_;rw[add_ofNat,Ho h]
def atA(a b:Nat)(h:a<=9223372036854775807)(h2:b<=a):nJ .sub (.c (.int .i64 (.ofNat a))) (.c (.int .i64 (.ofNat b)))=some (.c (.int .i64 (.ofNat (a-b)))):=by show mkI .i64 (Int.ofNat a-Int.ofNat b)=_;grind[Ho]
def atB(p:Bool)(x y:O):wpOp E (.eqb p x y) tm σ K=Gf (match x.ev tm,y.ev tm with|.c (.bool a),.c (.bool b)=>some (.c (.bool (p==(a==b))))|_,_=>none) λv=>K v σ:=iq _ _ _ _ rfl λ_ _ h=>by cases h
def akS(p:Bool)(x y:O):wpOp E (.EU p x y) tm σ K=Gf (match x.ev tm,y.ev tm with|.agg l,.agg r=>(match eqB l r with|some b=>some (.c (.bool (p==b)))|none=>none)|_,_=>none) λv=>K v σ:=iq _ _ _ _ rfl λ_ _ h=>by cases h
def apy(a b c d:Int):eqL [.int .i64 a,.int .i64 b] [.int .i64 c,.int .i64 d]=some (decide (a=c)&&decide (b=d)):=rfl
def akT(p q:Rat):eqB [.bool (rn p),.str (rs p),.str (rd p)] [.bool (rn q),.str (rs q),.str (rd q)]=some (decide (p=q)):=by grind[eqB,eqS,decide,YL]
def atC(k:Nat)(p:Bool)(v:V):Option V:=match k,v with
 |0,.c (.sl ..)=>some (.c (.bool (!p)))
 |0,.c .aV=>some (.c (.bool p))
 |1,.c (.ptr ..)=>some (.c (.bool (!p)))
 |1,.c .SL=>some (.c (.bool p))
 |2,.fn ..=>some (.c (.bool (!p)))
 |2,.Me=>some (.c (.bool p))
 |_,_=>none
def atD(k:Nat)(p:Bool)(x:O):wpOp E (.nil k p x) tm σ K=Gf (atC k p (x.ev tm)) λv=>K v σ:=iq _ _ _ _ rfl λ_ _ h=>by cases h
def atE(x:O):wpOp E (.not x) tm σ K=Gf (match x.ev tm with|.c (.bool b)=>some (.c (.bool !b))|_=>none) λv=>K v σ:=iq _ _ _ _ rfl λ_ _ h=>by cases h
def akU(z:List B)(ps:List (Nat×Nat×O)):wpOp E (.build z ps) tm σ K=Gf (match BQ z (ps.map λp=>(p.1,p.2.1,p.2.2.ev tm))with|some l=>some (.agg l)|none=>none) λv=>K v σ:=iq _ _ _ _ rfl λ_ _ h=>by cases h
def apz(f:Nat)(cs:List O):wpOp E (.Pz f cs) tm σ K=Gf (match Y3 tm cs with|some l=>some (.fn f l)|none=>none) λv=>K v σ:=iq _ _ _ _ rfl λ_ _ h=>by cases h
def atF(x:O):wpOp E (.len x) tm σ K=Gf (lenV (x.ev tm)) λv=>K v σ:=iq _ _ _ _ rfl λ_ _ h=>by cases h
def apA(x:O):wpOp E (.PD x) tm σ K=Gf (match x.ev tm with|.c (.ptr b o)=>some (.c (.ptr b o))|.fn f l=>some (.fn f l)|_=>none) λv=>K v σ:=iq _ _ _ _ rfl λ_ _ h=>by cases h
def akV(z:List B):wpOp E (.alloc z) tm σ K=K (.c (.ptr σ.aj 0)) ⟨hset σ.h σ.aj ⟨z,none⟩,σ.aj+1⟩:=by rfl
def atG(x:O):wpOp E (.box x) tm σ K=match(x.ev tm).cells with|some l=>K (.c (.ptr σ.aj 0)) ⟨hset σ.h σ.aj ⟨l,none⟩,σ.aj+1⟩|none=>False:=by grind[wpOp,oC,vG.kind,ng,jH]
def apB(bytes:Nat)(z:List B)(l c:O):wpOp E (.J3 bytes z l c) tm σ K=match JL (l.ev tm),JL (c.ev tm)with
  |some n,some m=>(bif Nat.ble n m&&(Nat.ble (bytes*m) 281474976710656&&Nat.ble m 1073741824)then K (.c (.sl σ.aj 0 n (.ex m))) ⟨hset σ.h σ.aj ⟨rep z m,none⟩,σ.aj+1⟩else False)
  |_,_=>False:=by
 grind[wpOp,oC,vG.kind,ng,jH]
def atH(e n:Nat)(z:List B)(ps:List (Nat×Nat×O))(h:n*e<=16777216)(h':n<=16777216):wpOp E (.bsl e n z ps) tm σ K=match BQ (rep z n) (ps.map λp=>(p.1,p.2.1,p.2.2.ev tm))with
  |some l=>K (.c (.sl σ.aj 0 n (.ex n))) ⟨hset σ.h σ.aj ⟨l,none⟩,σ.aj+1⟩|none=>False:=by
 grind[wpOp,oC,vG.kind,ng,jH,uo]
def akW(n:Nat)(a x:O):wpOp E (.store n a x) tm σ K=match a.ev tm,(x.ev tm).cells with
  |.c (.ptr b o),some vs=>(bif Nat.beq vs.length n then(match sto σ.h b o vs with|some h=>K .und ⟨h,σ.aj⟩|none=>False)else False)
  |_,_=>False:=by
 grind[wpOp,oC,vG.kind,adC]
def apC(g:O)(args:List O):wpOp E (.call g args) tm σ K=match g.ev tm with|.fn f caps=>aC E f (args.map (·.ev tm)++caps.map .c) σ K|_=>False:=rfl
end
end Go.Proofs.Xe
end
