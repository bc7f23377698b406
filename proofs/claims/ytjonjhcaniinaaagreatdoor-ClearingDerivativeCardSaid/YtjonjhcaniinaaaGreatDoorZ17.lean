/- The bJ: how runs on values that are not known are worked out. -/
import Derived.Test.YtjonjhcaniinaaaGreatDoorZ15
import Derived.Test.YtjonjhcaniinaaaGreatDoorZ16
set_option linter.all false
set_option maxHeartbeats 8000000
namespace Go.Proofs.Xe
open Go.RowKit Go.Proofs.Ins
def szK:Nat:=60000000
def Sz (q:Rat):Prop:=Sm szK q
def SzN (a:Nat):Prop:=(bn a).size≤60000000
def rV (q:Rat):V:=.agg [.bool (rn q),.str (rs q),.str (rd q)]
def rbV (q:Rat) (b:Bool):V:=.cZ (rV q) (.cZ (.c (.bool b)) .tnil)
def iV (i:Int):V:=.c (.int .i64 i)
theorem adE {p q:Rat} (h:rV p=rV q):p=q:=by
 unfold rV at h
 simp only [V.agg.injEq,List.cons.injEq,B.bool.injEq,B.str.injEq,and_true] at h
 exact IV h.1 h.2.1 h.2.2
theorem Sz.sizes {p:Rat} (h:Sz p):(rs p).size≤60000000∧(rd p).size≤60000000:=⟨Sm.rs h,Sm.rd h⟩
theorem xZ (q:Rat) (φ:Ph):RV φ (rV q) (rv q):=⟨_,rfl,rfl,rfl,rfl,trivial⟩
theorem als (q:Rat) (b:Bool) (φ:Ph):RV φ (rbV q b) (Ru q b):=⟨_,[.bool b],rfl,xZ q φ,.bool b,[],rfl,rfl,rfl⟩
def ao4 (P : Program) (f : Nat) : Bool := match P.funcs[f]? with | some fn => !fn.body.isNone && !(fn.name == "runtime.NumGoroutine") | none => false
theorem dS {P:Program} {f:Nat} (h:ao4 P f=true):okF P f:=by
 unfold ao4 at h
 split at h
 ·next fn hfn =>
  simp only [Bool.and_eq_true,Bool.not_eq_true'] at h
  exact ⟨fn,hfn,h.1,h.2⟩
 ·cases h
def Ct (P:Program) (f:Nat) (v:V) (aG:Array Value) (w:World):Prop :=
 Calls P f aG w fun e w'=>∃ cv,e = .returned cv∧Below w.heap.size w w'∧∀ φ',RV φ' v cv
variable {φ:Ph} {args:List V} {v:V} {aG:Array Value} {P:Program} {f:Nat}
theorem nV {x:V} (h:wE φ [x] aG.toList) : ∃ u,aG = #[u]∧RV φ x u:=by
 obtain ⟨l⟩:=aG
 match l,h with
 | [u],h=>exact ⟨u,rfl,h.1⟩
theorem qy {x y:V} (h:wE φ [x,y] aG.toList) : ∃ u v,aG = #[u,v]∧RV φ x u∧RV φ y v:=by
 obtain ⟨l⟩:=aG
 match l,h with
 | [u,v],h=>exact ⟨u,v,rfl,h.1,h.2.1⟩
theorem JO {x y z:V} (h:wE φ [x,y,z] aG.toList) : ∃ u v t,aG = #[u,v,t]∧RV φ x u∧RV φ y v∧RV φ z t:=by
 obtain ⟨l⟩:=aG
 match l,h with
 | [u,v,t],h=>exact ⟨u,v,t,rfl,h.1,h.2.1,h.2.2.1⟩
theorem Ad {n:Bool} {s d:ByteArray} {cv:Value} (h:RV φ (.agg [.bool n,.str s,.str d]) cv):cv = .agg #[.bool n,.string s,.string d]:=by
 obtain ⟨r,e,hr⟩:=h
 obtain ⟨l⟩:=r
 match l,hr with
 | [a,b,c],⟨h1,h2,h3,_⟩ =>
  simp only [RB] at h1 h2 h3
  rw [e,h1,h2,h3]
theorem nX {c:Prop} [Decidable c] {x y:List V→Option V} {a:List V} {v:V} (h:(if c then x else y) a=some v):(c∧x a=some v)∨(¬ c∧y a=some v):=by
 by_cases hc:c
 ·rw [if_pos hc] at h;exact .inl ⟨hc,h⟩
 ·rw [if_neg hc] at h;exact .inr ⟨hc,h⟩
inductive FT where
 | leaf
 | node (k:Nat) (F:AF) (l r:FT)
def FT.all (p:Nat→AF→Bool):FT→Bool
 | .leaf=>true
 | .node k F l r=>p k F && (l.all p && r.all p)
abbrev kb (b:Bool):O:=.k (.c (.bool b))
abbrev d (n:Nat):Option Nat:=some n
abbrev s0:B:=.str ⟨#[]⟩
abbrev i0:B:=.int .i64 (.ofNat 0)
noncomputable section
open Classical in
def kR2 (R:Rat→Rat→V):List V→Option V
 | [.agg [.bool n,.str s,.str d],.agg [.bool m,.str t,.str e]]=>if s.size+d.size≤130000000∧t.size+e.size≤130000000 then some (R (rq n s d) (rq m t e)) else none
 | _=>none
open Classical in
def kR1 (R:Rat→V):List V→Option V
 | [.agg [.bool n,.str s,.str d]]=>if s.size+d.size≤130000000 then some (R (rq n s d)) else none
 | _=>none
open Classical in
def k2 (R:Rat→Rat→V) (args:List V):Option V:=if h : ∃ x:Rat×Rat,args=[rV x.1,rV x.2]∧Sz x.1∧Sz x.2 then some (R (Classical.choose h).1 (Classical.choose h).2) else none
open Classical in
def k1 (R:Rat→V) (args:List V):Option V:=if h : ∃ p:Rat,args=[rV p]∧Sz p then some (R (Classical.choose h)) else none
open Classical in
def kN2 (R:Nat→Nat→V) (args:List V):Option V:=if h : ∃ x:Nat×Nat,args=[.c (.str (bn x.1)),.c (.str (bn x.2))]∧SzN x.1∧SzN x.2 then some (R (Classical.choose h).1 (Classical.choose h).2) else none
open Classical in
def kND (R:Nat→Nat→V) (args:List V):Option V:=if h : ∃ x:Nat×Nat,args=[.c (.str (bn x.1)),.c (.str (bn x.2))]∧SzN x.1∧SzN x.2∧0<x.2 then some (R (Classical.choose h).1 (Classical.choose h).2) else none
open Classical in
def kMk (R:Bool→Nat→Nat→V) (args:List V):Option V:=if h : ∃ x:Bool×Nat×Nat,args=[.c (.bool x.1),.c (.str (bn x.2.1)),.c (.str (bn x.2.2))]∧SzN x.2.1∧SzN x.2.2∧0<x.2.2 then some (R (Classical.choose h).1 (Classical.choose h).2.1 (Classical.choose h).2.2) else none
def kI (R:Int→V):List V→Option V
 | [.c (.int .i64 i)]=>if -9223372036854775808≤i∧i≤9223372036854775807 then some (R i) else none
 | _=>none
def kQ (R:Int→Int→V):List V→Option V
 | [.c (.int .i64 i),.c (.int .i64 j)]=>if (-4294967295≤i∧i≤4294967295)∧0<j∧j≤9223372036854775807 then some (R i j) else none
 | _=>none
def kU (R:Nat→V):List V→Option V
 | [.c (.int .u16 i)]=>if 0≤i∧i≤65535 then some (R i.toNat) else none
 | _=>none
def kF (R:Nat→V):List V→Option V
 | [.c (.int .u64 i)]=>if 0≤i∧i<18446744073709551616 then some (R i.toNat) else none
 | _=>none
def k0 (v:V):List V→Option V
 | []=>some v
 | _=>none
end
theorem Vx {a b:Nat} (h:bn a=bn b):a=b:=by rw [← bK a,← bK b,h]
theorem EO (R:Rat→Rat→V) {p q:Rat} (hp:Sz p) (hq:Sz q):kR2 R [rV p,rV q]=some (R p q):=by
 unfold kR2 rV
 have:=hp.sizes;have:=hq.sizes
 simp only
 rw [if_pos jb,FN,FN]
theorem adF (R:Rat→V) {p:Rat} (hp:Sz p):kR1 R [rV p]=some (R p):=by
 unfold kR1 rV
 have:=hp.sizes
 simp only
 rw [if_pos jb,FN]
theorem ao5 (R:Rat→Rat→V) {p q:Rat} (hp:Sz p) (hq:Sz q):k2 R [rV p,rV q]=some (R p q):=by
 have h : ∃ x:Rat×Rat,[rV p,rV q]=[rV x.1,rV x.2]∧Sz x.1∧Sz x.2:=⟨(p,q),rfl,hp,hq⟩
 have h2:=(Classical.choose_spec h).1
 unfold k2
 rw [dif_pos h]
 generalize Classical.choose h=z at h2 ⊢
 simp only [List.cons.injEq,and_true] at h2
 rw [← adE h2.1,← adE h2.2]
theorem aki (R:Int→V) {i:Int} (h1 : -9223372036854775808≤i) (h2:i≤9223372036854775807):kI R [.c (.int .i64 i)]=some (R i):=by
 unfold kI;simp only;rw [if_pos ⟨h1,h2⟩]
theorem ao6 (R:Int→Int→V) {i j:Int} (h1 : -4294967295≤i) (h2:i≤4294967295) (h3:0<j) (h4:j≤9223372036854775807):kQ R [.c (.int .i64 i),.c (.int .i64 j)]=some (R i j):=by
 unfold kQ;simp only;rw [if_pos ⟨⟨h1,h2⟩,h3,h4⟩]
theorem ao7 (R:Nat→V) {x:Nat} (h1:x≤65535):kU R [.c (.int .u16 (x:Int))]=some (R x):=by
 unfold kU;simp only;rw [if_pos jb,Int.toNat_natCast]
theorem Bl {R:Rat→Rat→V} (hc : ∀ n1 s1 d1 n2 s2 d2 w,s1.size+d1.size≤130000000→s2.size+d2.size≤130000000→Ct P f (R (rq n1 s1 d1) (rq n2 s2 d2)) #[.agg #[.bool n1,.string s1,.string d1],.agg #[.bool n2,.string s2,.string d2]] w)
  (h:kR2 R args=some v) (ha:wE φ args aG.toList) (w:World):Ct P f v aG w:=by
 unfold kR2 at h
 split at h
 ·split at h
  ·next hs =>
   cases h
   obtain ⟨u,v,rfl,hu,hv⟩:=qy ha
   rw [Ad hu,Ad hv]
   exact hc _ _ _ _ _ _ w hs.1 hs.2
  ·cases h
 ·cases h
theorem adG {R:Rat→V} (hc : ∀ n s d w,s.size+d.size≤130000000→Ct P f (R (rq n s d)) #[.agg #[.bool n,.string s,.string d]] w)
  (h:kR1 R args=some v) (ha:wE φ args aG.toList) (w:World):Ct P f v aG w:=by
 unfold kR1 at h
 split at h
 ·split at h
  ·next hs =>
   cases h
   obtain ⟨u,rfl,hu⟩:=nV ha
   rw [Ad hu]
   exact hc _ _ _ w hs
  ·cases h
 ·cases h
theorem ao8 {R:Rat→Rat→V} (hc : ∀ p q w,Sz p→Sz q→Ct P f (R p q) #[.agg #[.bool (rn p),.string (rs p),.string (rd p)],.agg #[.bool (rn q),.string (rs q),.string (rd q)]] w)
  (h:k2 R args=some v) (ha:wE φ args aG.toList) (w:World):Ct P f v aG w:=by
 unfold k2 at h
 split at h
 ·next hx =>
  obtain ⟨h1,h2,h3⟩:=Classical.choose_spec hx
  cases h
  rw [h1] at ha
  obtain ⟨u,v,rfl,hu,hv⟩:=qy ha
  rw [Ad hu,Ad hv]
  exact hc _ _ w h2 h3
 ·cases h
theorem akj {R:Int→V} (hc : ∀ i w,-9223372036854775808≤i→i≤9223372036854775807→Ct P f (R i) #[.int .i64 i] w) (h:kI R args=some v) (ha:wE φ args aG.toList) (w:World):Ct P f v aG w:=by
 unfold kI at h
 split at h
 ·split at h
  ·next hs =>
   cases h
   obtain ⟨u,rfl,hu⟩:=nV ha
   have hu:u=_:=hu
   rw [hu]
   exact hc _ w hs.1 hs.2
  ·cases h
 ·cases h
theorem ao9 {R:Int→Int→V} (hc : ∀ i j w,-4294967295≤i→i≤4294967295→0<j→j≤9223372036854775807→Ct P f (R i j) #[.int .i64 i,.int .i64 j] w) (h:kQ R args=some v) (ha:wE φ args aG.toList) (w:World):Ct P f v aG w:=by
 unfold kQ at h
 split at h
 ·split at h
  ·next hs =>
   cases h
   obtain ⟨u,v,rfl,hu,hv⟩:=qy ha
   have hu:u=_:=hu
   have hv:v=_:=hv
   rw [hu,hv]
   exact hc _ _ w hs.1.1 hs.1.2 hs.2.1 hs.2.2
  ·cases h
 ·cases h
theorem apa {R:Nat→V} (hc : ∀ (x:Nat) w,x≤65535→Ct P f (R x) #[.int .u16 (x:Int)] w) (h:kU R args=some v) (ha:wE φ args aG.toList) (w:World):Ct P f v aG w:=by
 unfold kU at h
 split at h
 ·next i =>
  split at h
  ·next hs =>
   cases h
   obtain ⟨u,rfl,hu⟩:=nV ha
   have hu:u = .int .u16 i:=hu
   have:=hc i.toNat w jb
   rw [Int.toNat_of_nonneg hs.1] at this
   rw [hu];exact this
  ·cases h
 ·cases h
noncomputable section
def qA (f:Nat):List V→Option V :=
 if f=17 then kR2 (fun p q=>rV (p+q))
 else if f=18 then kR2 (fun p q=>rV (p - q))
 else if f=22 then kR2 (fun p q=>rV (p*q))
 else if f=108 then kR2 (fun p q=>rbV (xB p q) (okR q))
 else if f=11 then kR2 (fun p q=>iV (lY p q))
 else if f=128 then kR2 (fun p q=>rV (Jj p q))
 else if f=58 then kR2 (fun p q=>rV (Am p q))
 else if f=12 then kR1 (fun p=>iV (sg p))
 else if f=23 then kI (fun i=>rV (i:Rat))
 else if f=45 then kI (fun i=>rV (i:Rat))
 else if f=46 then kQ (fun i j=>rV ((i:Rat)/(j:Rat)))
 else if f=24 then kU (fun x=>rV (amt x))
 else if f=41 then k2 (fun p q=>rV (p+q))
 else if f=34 then kR1 (fun p=>rV p)
 else fun _=>none
set_option maxRecDepth 100000 in
theorem ahE (f:Nat) (args:List V) (v:V) (h:qA f args=some v):okF Tryz.prog f∧∀ (φ:Ph) (aG:Array Value) (w:World),wE φ args aG.toList→Ct Tryz.prog f v aG w:=by
 unfold qA at h
 replace h:=nX h
 rcases h with ⟨e,h⟩|⟨-,h⟩
 ·subst e
  exact ⟨dS (by kernel_rfl),fun φ aG w ha=>Bl (R:=fun p q=>rV (p+q)) (fun n1 s1 d1 n2 s2 d2 w h1 h2=>(YO n1 s1 d1 n2 s2 d2 w jb jb).mono fun _ _ he=>⟨_,he.1,he.2,fun φ=>xZ _ φ⟩) h ha w⟩
 replace h:=nX h
 rcases h with ⟨e,h⟩|⟨-,h⟩
 ·subst e
  exact ⟨dS (by kernel_rfl),fun φ aG w ha=>Bl (R:=fun p q=>rV (p - q)) (fun n1 s1 d1 n2 s2 d2 w h1 h2=>(PX n1 s1 d1 n2 s2 d2 w jb jb).mono fun _ _ he=>⟨_,he.1,he.2,fun φ=>xZ _ φ⟩) h ha w⟩
 replace h:=nX h
 rcases h with ⟨e,h⟩|⟨-,h⟩
 ·subst e
  exact ⟨dS (by kernel_rfl),fun φ aG w ha=>Bl (R:=fun p q=>rV (p*q)) (fun n1 s1 d1 n2 s2 d2 w h1 h2=>(CZ n1 s1 d1 n2 s2 d2 w jb jb).mono fun _ _ he=>⟨_,he.1,he.2,fun φ=>xZ _ φ⟩) h ha w⟩
 replace h:=nX h
 rcases h with ⟨e,h⟩|⟨-,h⟩
 ·subst e
  exact ⟨dS (by kernel_rfl),fun φ aG w ha=>Bl (R:=fun p q=>rbV (xB p q) (okR q)) (fun n1 s1 d1 n2 s2 d2 w h1 h2=>(Ji n1 s1 d1 n2 s2 d2 w jb jb).mono fun _ _ he=>⟨_,he.1,he.2,fun φ=>als _ _ φ⟩) h ha w⟩
 replace h:=nX h
 rcases h with ⟨e,h⟩|⟨-,h⟩
 ·subst e
  exact ⟨dS (by kernel_rfl),fun φ aG w ha=>Bl (R:=fun p q=>iV (lY p q)) (fun n1 s1 d1 n2 s2 d2 w h1 h2=>(uS n1 s1 d1 n2 s2 d2 w jb jb).mono fun _ _ he=>⟨_,he.1,he.2,fun φ=>rfl⟩) h ha w⟩
 replace h:=nX h
 rcases h with ⟨e,h⟩|⟨-,h⟩
 ·subst e
  exact ⟨dS (by kernel_rfl),fun φ aG w ha=>Bl (R:=fun p q=>rV (Jj p q)) (fun n1 s1 d1 n2 s2 d2 w h1 h2=>(Yv n1 s1 d1 n2 s2 d2 w jb jb).mono fun _ _ he=>⟨_,he.1,he.2,fun φ=>xZ _ φ⟩) h ha w⟩
 replace h:=nX h
 rcases h with ⟨e,h⟩|⟨-,h⟩
 ·subst e
  exact ⟨dS (by kernel_rfl),fun φ aG w ha=>Bl (R:=fun p q=>rV (Am p q)) (fun n1 s1 d1 n2 s2 d2 w h1 h2=>(Yw n1 s1 d1 n2 s2 d2 w jb jb).mono fun _ _ he=>⟨_,he.1,he.2,fun φ=>xZ _ φ⟩) h ha w⟩
 replace h:=nX h
 rcases h with ⟨e,h⟩|⟨-,h⟩
 ·subst e
  exact ⟨dS (by kernel_rfl),fun φ aG w ha=>adG (R:=fun p=>iV (sg p)) (fun n s d w h1=>(Jh n s d w jb jb).mono fun _ _ he=>⟨_,he.1,he.2,fun φ=>rfl⟩) h ha w⟩
 replace h:=nX h
 rcases h with ⟨e,h⟩|⟨-,h⟩
 ·subst e
  exact ⟨dS (by kernel_rfl),fun φ aG w ha=>akj (R:=fun i=>rV (i:Rat)) (fun i w h1 h2=>(Yu i w h1 h2).mono fun _ _ he=>⟨_,he.1,he.2,fun φ=>xZ _ φ⟩) h ha w⟩
 replace h:=nX h
 rcases h with ⟨e,h⟩|⟨-,h⟩
 ·subst e
  exact ⟨dS (by kernel_rfl),fun φ aG w ha=>akj (R:=fun i=>rV (i:Rat)) (fun i w h1 h2=>(zU i w h1 h2).mono fun _ _ he=>⟨_,he.1,he.2,fun φ=>xZ _ φ⟩) h ha w⟩
 replace h:=nX h
 rcases h with ⟨e,h⟩|⟨-,h⟩
 ·subst e
  exact ⟨dS (by kernel_rfl),fun φ aG w ha=>ao9 (R:=fun i j=>rV ((i:Rat)/(j:Rat))) (fun i j w h1 h2 h3 h4=>(ND i j w h1 h2 h3 h4).mono fun _ _ he=>⟨_,he.1,he.2,fun φ=>xZ _ φ⟩) h ha w⟩
 replace h:=nX h
 rcases h with ⟨e,h⟩|⟨-,h⟩
 ·subst e
  exact ⟨dS (by kernel_rfl),fun φ aG w ha=>apa (R:=fun x=>rV (amt x)) (fun x w h1=>(Wp x w h1).mono fun _ _ he=>⟨_,he.1,he.2,fun φ=>xZ _ φ⟩) h ha w⟩
 replace h:=nX h
 rcases h with ⟨e,h⟩|⟨-,h⟩
 ·subst e
  exact ⟨dS (by kernel_rfl),fun φ aG w ha=>ao8 (R:=fun p q=>rV (p+q)) (fun p q w hp hq=>(Ac p q szK szK w hp hq (by unfold szK;omega)).mono fun _ _ he=>⟨_,he.1,he.2,fun φ=>xZ _ φ⟩) h ha w⟩
 replace h:=nX h
 rcases h with ⟨e,h⟩|⟨-,h⟩
 ·subst e
  exact ⟨dS (by kernel_rfl),fun φ aG w ha=>adG (R:=fun p=>rV p) (fun n s d w h1=>(clean_any n s d w jb jb).mono fun _ _ he=>⟨_,he.1,he.2,fun φ=>xZ _ φ⟩) h ha w⟩
 cases h
def WQ (f:Nat) (args:List V) (σ:St):Option (V×St):=match qA f args with|some v=>some (v,σ)|none=>none
theorem ahF (f:Nat) (args:List V) (σ:St) (v:V) (σ' : St) (h:WQ f args σ=some (v,σ')):okF Tryz.prog f∧∀ (N:Nat) (w0:World) (φ:Ph) (w:World) (aG:Array Value),Rel N w0 φ σ w→wE φ args aG.toList →
  Calls Tryz.prog f aG w fun e w'=>∃ cv,e = .returned cv∧∃ φ',Ext σ.ah φ φ'∧Rel N w0 φ' σ' w'∧RV φ' v cv∧σ.ah≤σ'.ah:=by
 unfold WQ at h
 split at h
 ·next u hu =>
  cases h
  obtain ⟨h1,h2⟩:=ahE f args _ hu
  refine ⟨h1,fun N w0 φ w aG hR ha=>(h2 φ aG w ha).mono fun e w' he=>?_⟩
  obtain ⟨cv,rfl,hb,hv⟩:=he
  exact ⟨cv,rfl,φ,Ext.refl _ _,hR.below hb,hv φ,jp⟩
 ·cases h
class vK (E:Env):Prop where
 o : ∀ f args σ v,qA f args=some v→E.orc f args σ=some (v,σ)
theorem dV {E:Env} [hE:vK E] {f:Nat} {args:List V} {v:V} {σ:St} {K:V→St→Prop} (h:qA f args=some v):aO E f args σ K=K v σ:=by
 refine propext ⟨fun ⟨n,v',σ',h1,h2⟩=>?_,fun hk=>TK (hE.o f args σ v h) hk⟩
 have h3:ig E 1 f args σ=some (v,σ):=by rw [ig];unfold Di;rw [hE.o f args σ v h]
 have a:=lC (show n≤n+1 by omega) f args σ _ h1
 have b:=lC (show 1≤n+1 by omega) f args σ _ h3
 rw [a] at b
 cases b
 exact h2
section
variable {E:Env} {σ:St} {K:V→St→Prop}
theorem apb [vK E] (p q:Rat) (hp:Sz p) (hq:Sz q):aO E 17 [.agg [.bool (rn p),.str (rs p),.str (rd p)],.agg [.bool (rn q),.str (rs q),.str (rd q)]] σ K=K (.agg [.bool (rn (p+q)),.str (rs (p+q)),.str (rd (p+q))]) σ:=dV (by unfold qA;simp only [Nat.reduceEqDiff,reduceIte];exact EO _ hp hq)
theorem alu [vK E] (n m:Bool) (s d t e:ByteArray) (h1:s.size+d.size≤130000000) (h2:t.size+e.size≤130000000):aO E 17 [.agg [.bool n,.str s,.str d],.agg [.bool m,.str t,.str e]] σ K=K (.agg [.bool (rn ((rq n s d)+(rq m t e))),.str (rs ((rq n s d)+(rq m t e))),.str (rd ((rq n s d)+(rq m t e)))]) σ:=dV (by unfold qA;simp only [Nat.reduceEqDiff,reduceIte];exact if_pos jb)
theorem WS [vK E] (p q:Rat) (hp:Sz p) (hq:Sz q):aO E 18 [.agg [.bool (rn p),.str (rs p),.str (rd p)],.agg [.bool (rn q),.str (rs q),.str (rd q)]] σ K=K (.agg [.bool (rn (p - q)),.str (rs (p - q)),.str (rd (p - q))]) σ:=dV (by unfold qA;simp only [Nat.reduceEqDiff,reduceIte];exact EO _ hp hq)
theorem TL [vK E] (n m:Bool) (s d t e:ByteArray) (h1:s.size+d.size≤130000000) (h2:t.size+e.size≤130000000):aO E 18 [.agg [.bool n,.str s,.str d],.agg [.bool m,.str t,.str e]] σ K=K (.agg [.bool (rn ((rq n s d) - (rq m t e))),.str (rs ((rq n s d) - (rq m t e))),.str (rd ((rq n s d) - (rq m t e)))]) σ:=dV (by unfold qA;simp only [Nat.reduceEqDiff,reduceIte];exact if_pos jb)
theorem WT [vK E] (p q:Rat) (hp:Sz p) (hq:Sz q):aO E 22 [.agg [.bool (rn p),.str (rs p),.str (rd p)],.agg [.bool (rn q),.str (rs q),.str (rd q)]] σ K=K (.agg [.bool (rn (p*q)),.str (rs (p*q)),.str (rd (p*q))]) σ:=dV (by unfold qA;simp only [Nat.reduceEqDiff,reduceIte];exact EO _ hp hq)
theorem adH [vK E] (p q:Rat) (hp:Sz p) (hq:Sz q):aO E 108 [.agg [.bool (rn p),.str (rs p),.str (rd p)],.agg [.bool (rn q),.str (rs q),.str (rd q)]] σ K=K (.cZ (.agg [.bool (rn (xB p q)),.str (rs (xB p q)),.str (rd (xB p q))]) (.cZ (.c (.bool (okR q))) .tnil)) σ:=dV (by unfold qA;simp only [Nat.reduceEqDiff,reduceIte];exact EO _ hp hq)
theorem aaS [vK E] (p q:Rat) (hp:Sz p) (hq:Sz q):aO E 11 [.agg [.bool (rn p),.str (rs p),.str (rd p)],.agg [.bool (rn q),.str (rs q),.str (rd q)]] σ K=K (.c (.int .i64 (lY p q))) σ:=dV (by unfold qA;simp only [Nat.reduceEqDiff,reduceIte];exact EO _ hp hq)
theorem alv [vK E] (n m:Bool) (s d t e:ByteArray) (h1:s.size+d.size≤130000000) (h2:t.size+e.size≤130000000):aO E 128 [.agg [.bool n,.str s,.str d],.agg [.bool m,.str t,.str e]] σ K=K (.agg [.bool (rn (Jj (rq n s d) (rq m t e))),.str (rs (Jj (rq n s d) (rq m t e))),.str (rd (Jj (rq n s d) (rq m t e)))]) σ:=dV (by unfold qA;simp only [Nat.reduceEqDiff,reduceIte];exact if_pos jb)
theorem apc [vK E] (p q:Rat) (hp:Sz p) (hq:Sz q):aO E 58 [.agg [.bool (rn p),.str (rs p),.str (rd p)],.agg [.bool (rn q),.str (rs q),.str (rd q)]] σ K=K (.agg [.bool (rn (Am p q)),.str (rs (Am p q)),.str (rd (Am p q))]) σ:=dV (by unfold qA;simp only [Nat.reduceEqDiff,reduceIte];exact EO _ hp hq)
theorem alx [vK E] (n m:Bool) (s d t e:ByteArray) (h1:s.size+d.size≤130000000) (h2:t.size+e.size≤130000000):aO E 58 [.agg [.bool n,.str s,.str d],.agg [.bool m,.str t,.str e]] σ K=K (.agg [.bool (rn (Am (rq n s d) (rq m t e))),.str (rs (Am (rq n s d) (rq m t e))),.str (rd (Am (rq n s d) (rq m t e)))]) σ:=dV (by unfold qA;simp only [Nat.reduceEqDiff,reduceIte];exact if_pos jb)
theorem aly [vK E] (p:Rat) (hp:Sz p):aO E 12 [.agg [.bool (rn p),.str (rs p),.str (rd p)]] σ K=K (.c (.int .i64 (sg p))) σ:=dV (by unfold qA;simp only [Nat.reduceEqDiff,reduceIte];exact adF _ hp)
theorem ahG [vK E] (n:Bool) (s d:ByteArray) (h1:s.size+d.size≤130000000):aO E 12 [.agg [.bool n,.str s,.str d]] σ K=K (.c (.int .i64 (sg (rq n s d)))) σ:=dV (by unfold qA;simp only [Nat.reduceEqDiff,reduceIte];exact if_pos jb)
theorem ape [vK E] (i:Int) (h1 : -9223372036854775808≤i) (h2:i≤9223372036854775807):aO E 23 [.c (.int .i64 i)] σ K=K (.agg [.bool (rn (i:Rat)),.str (rs (i:Rat)),.str (rd (i:Rat))]) σ:=dV (by unfold qA;simp only [Nat.reduceEqDiff,reduceIte];exact aki _ h1 h2)
theorem TM [vK E] (i:Int) (h1 : -9223372036854775808≤i) (h2:i≤9223372036854775807):aO E 45 [.c (.int .i64 i)] σ K=K (.agg [.bool (rn (i:Rat)),.str (rs (i:Rat)),.str (rd (i:Rat))]) σ:=dV (by unfold qA;simp only [Nat.reduceEqDiff,reduceIte];exact aki _ h1 h2)
theorem adI [vK E] (i j:Int) (h1 : -4294967295≤i) (h2:i≤4294967295) (h3:0<j) (h4:j≤9223372036854775807):aO E 46 [.c (.int .i64 i),.c (.int .i64 j)] σ K=K (.agg [.bool (rn ((i:Rat)/(j:Rat))),.str (rs ((i:Rat)/(j:Rat))),.str (rd ((i:Rat)/(j:Rat)))]) σ:=dV (by unfold qA;simp only [Nat.reduceEqDiff,reduceIte];exact ao6 _ h1 h2 h3 h4)
theorem aaT [vK E] (x:Nat) (h1:x≤65535):aO E 24 [.c (.int .u16 (.ofNat x))] σ K=K (.agg [.bool (rn (amt x)),.str (rs (amt x)),.str (rd (amt x))]) σ:=dV (by unfold qA;simp only [Nat.reduceEqDiff,reduceIte];exact ao7 _ h1)
theorem apf [vK E] (p q:Rat) (hp:Sz p) (hq:Sz q):aO E 41 [.agg [.bool (rn p),.str (rs p),.str (rd p)],.agg [.bool (rn q),.str (rs q),.str (rd q)]] σ K=K (.agg [.bool (rn (p+q)),.str (rs (p+q)),.str (rd (p+q))]) σ:=dV (by unfold qA;simp only [Nat.reduceEqDiff,reduceIte];exact ao5 _ hp hq)
theorem ahH [vK E] (p:Rat) (hp:Sz p):aO E 34 [.agg [.bool (rn p),.str (rs p),.str (rd p)]] σ K=K (.agg [.bool (rn p),.str (rs p),.str (rd p)]) σ:=dV (by unfold qA;simp only [Nat.reduceEqDiff,reduceIte];exact adF _ hp)
end
end
end Go.Proofs.Xe
namespace Go.Proofs.Xe
open Go.RowKit Go.Proofs.Ins
/-! ### akk -/
theorem aaU (tm:Tr V) (d:Nat) (v:V):Tr.aj (Ap tm (some d) v) d=v:=by unfold Tr.aj Ap;dsimp only;rw [Tr.lN,if_pos rfl]
theorem ahI (tm:Tr V) (d j:Nat) (v:V) (h:j≠d):Tr.aj (Ap tm (some d) v) j=Tr.aj tm j:=by
 unfold Tr.aj Ap
 dsimp only
 rw [Tr.lN,if_neg h]
theorem aaV (tm:Tr V) (v:V):Ap tm none v=tm:=rfl
theorem aaW (a:V) (l:List V):Tr.aj (ini (a::l)) 0=a:=by unfold Tr.aj;rw [uV];rfl
theorem aaX (a b:V) (l:List V):Tr.aj (ini (a::b::l)) 1=b:=by unfold Tr.aj;rw [uV];rfl
theorem aaY (a b c:V) (l:List V):Tr.aj (ini (a::b::c::l)) 2=c:=by unfold Tr.aj;rw [uV];rfl
theorem aaZ (a b c d:V) (l:List V):Tr.aj (ini (a::b::c::d::l)) 3=d:=by unfold Tr.aj;rw [uV];rfl
theorem aa0 (a b c d e:V) (l:List V):Tr.aj (ini (a::b::c::d::e::l)) 4=e:=by unfold Tr.aj;rw [uV];rfl
theorem aa1 (a b c d e f:V) (l:List V):Tr.aj (ini (a::b::c::d::e::f::l)) 5=f:=by unfold Tr.aj;rw [uV];rfl
theorem aa2 (a b c d e f g:V) (l:List V):Tr.aj (ini (a::b::c::d::e::f::g::l)) 6=g:=by unfold Tr.aj;rw [uV];rfl
theorem aa3 (a b c d e f g i:V) (l:List V):Tr.aj (ini (a::b::c::d::e::f::g::i::l)) 7=i:=by unfold Tr.aj;rw [uV];rfl
theorem arU (tm:Tr V) (i:Nat):O.ev tm (.t i)=Tr.aj tm i:=rfl
theorem arV (tm:Tr V) (v:V):O.ev tm (.k v)=v:=rfl
theorem z3 (l:List B):(B.bool false::s0::s0::l)=(.bool (rn 0) :: .str (rs 0) :: .str (rd 0)::l):=rfl
/-! ### The heap -/
noncomputable def hset (h:Tr Bk) (b:Nat) (k:Bk):Tr Bk:=h.set b (some k)
theorem aA (h:Tr Bk) (b:Nat) (k:Bk):hset h b k b=some k:=by unfold hset;rw [Tr.lN,if_pos rfl]
theorem ak (h:Tr Bk) (b j:Nat) (k:Bk) (e:j≠b):hset h b k j=h j:=by unfold hset;rw [Tr.lN,if_neg e]
noncomputable def ld (h:Tr Bk) (b o n:Nat) (g:Bool):Option V:=match h b with|some k=>bif k.rd then yw k.cells o n g else none|none=>none
noncomputable def sto (h:Tr Bk) (b o:Nat) (vs:List B):Option (Tr Bk):=match h b with
 | some k=>(match bif k.pl then uT k.cells o vs else none with|some l=>some (hset h b ⟨l,k.opn⟩)|none=>none)
 | none=>none
theorem adJ (n:Nat) (g:Bool) (x:O) (tm:Tr V) (σ:St):YD n g x tm σ=match x.ev tm with|.c (.ptr b o)=>ld σ.h b o n g|_=>none:=rfl
theorem aa4 (n:Nat) (a x:O) (tm:Tr V) (σ:St):qw (.store n a x) tm σ=match a.ev tm,(x.ev tm).cells with
  | .c (.ptr b o),some vs=>bif Nat.beq vs.length n then (match sto σ.h b o vs with|some h=>some (.und,⟨h,σ.ah⟩)|none=>none) else none
  | _,_=>none:=by
 unfold qw sto
 dsimp only
 generalize O.ev tm a=va
 generalize (O.ev tm x).cells=vc
 cases vc with
 | none=>split <;> (try split) <;> first|rfl|simp_all
 | some vs =>
  split
  ·next b o vs' e =>
   cases e
   dsimp only
   cases Nat.beq vs.length n with
   | false=>rfl
   | true =>
    simp only [cond_true]
    cases σ.h b with
    | none=>rfl
    | some k =>
     dsimp only
     cases (bif k.pl then uT k.cells o vs else none) with
     | none=>rfl
     | some l=>rfl
  ·next hne =>
   split
   ·next b o vs2 e=>exact (hne b o vs rfl rfl).elim
   ·rfl
theorem kD (σ:St) (k:Bk):σ.new k=some (σ.ah,⟨hset σ.h σ.ah k,σ.ah+1⟩):=by
 unfold St.new Tr.put
 dsimp only
 rw [iY];rfl
theorem ahJ (h:Tr Bk) (b:Nat) (k:Bk) (o n:Nat) (g:Bool):ld (hset h b k) b o n g=bif k.rd then yw k.cells o n g else none:=by unfold ld;rw [aA]
theorem apg (h:Tr Bk) (b j:Nat) (k:Bk) (o n:Nat) (g:Bool) (e:j≠b):ld (hset h b k) j o n g=ld h j o n g:=by
 unfold ld
 rw [ak _ _ _ _ e]
theorem adK (h:Tr Bk) (b:Nat) (k:Bk) (o:Nat) (vs:List B):sto (hset h b k) b o vs=match bif k.pl then uT k.cells o vs else none with|some l=>some (hset (hset h b k) b ⟨l,k.opn⟩)|none=>none:=by
 unfold sto
 rw [aA]
theorem alz (h:Tr Bk) (b j:Nat) (k:Bk) (o:Nat) (vs:List B) (e:j≠b):sto (hset h b k) j o vs=match h j with|some k'=>(match bif k'.pl then uT k'.cells o vs else none with|some l=>some (hset (hset h b k) j ⟨l,k'.opn⟩)|none=>none)|none=>none:=by
 unfold sto
 rw [ak _ _ _ _ e]
/-! ### Small things -/
theorem arW {α:Sort _} (a b:α):(bif true then a else b)=a:=rfl
theorem arX {α:Sort _} (a b:α):(bif false then a else b)=b:=rfl
theorem FZ {a b:Nat} (h:a<b):Nat.blt a b=true:=Nat.ble_eq_true_of_le h
theorem kX {a b:Nat} (h:a≤b):Nat.ble a b=true:=Nat.ble_eq_true_of_le h
theorem YP (a:Nat):Nat.beq a a=true:=by simp
theorem NS {a b:Nat} (h:a≠b):Nat.beq a b=false:=by
 cases hb:Nat.beq a b with
 | false=>rfl
 | true=>exact absurd (Nat.eq_of_beq_eq_true hb) h
theorem PY {n:Nat} (h:n≤9223372036854775807):mkI .i64 (.ofNat n)=some (.c (.int .i64 (.ofNat n))):=by
 unfold mkI
 rw [aj8]
 unfold LP
 dsimp only
 rw [kX h];rfl
theorem add_ofNat (a b:Nat):(Int.ofNat a+Int.ofNat b)=Int.ofNat (a+b):=rfl
theorem aP (a b:Nat):decide (Int.ofNat a<Int.ofNat b)=decide (a<b):=by simp
/-! ### Facts on the heap -/
def WF (σ:St):Prop:=∀ b,σ.ah≤b→σ.h b=none
structure Fr (σ σ' : St):Prop where
 le:σ.ah≤σ'.ah
 wf:WF σ'
 old : ∀ b,b<σ.ah→σ'.h b=σ.h b
theorem Fr.refl {σ:St} (h:WF σ):Fr σ σ:=⟨jp,h,fun _ _=>rfl⟩
theorem Fr.trans {σ σ' σ'' : St} (h:Fr σ σ') (h' : Fr σ' σ''):Fr σ σ'':=⟨Nat.le_trans h.le h'.le,h'.wf,fun b hb=>(h'.old b (Nat.lt_of_lt_of_le hb h.le)).trans (h.old b hb)⟩
theorem WF.lt {σ:St} (h:WF σ) {b:Nat} {k:Bk} (hb:σ.h b=some k):b<σ.ah:=by
 refine Nat.lt_of_not_le fun e=>?_
 rw [h b e] at hb;cases hb
theorem WF.eU {σ:St} (h:WF σ) {b o n:Nat} {g:Bool} {v:V} (hb:ld σ.h b o n g=some v):b<σ.ah:=by
 unfold ld at hb
 split at hb
 ·next k hk=>exact h.lt hk
 ·cases hb
theorem Fr.ld {σ σ' : St} (h:WF σ) (hf:Fr σ σ') {b o n:Nat} {g:Bool} {v:V} (hb:Xe.ld σ.h b o n g=some v):Xe.ld σ'.h b o n g=some v:=by
 have hlt:=h.eU hb
 unfold Xe.ld at hb ⊢
 rw [hf.old b hlt];exact hb
theorem Fr.get {σ σ' : St} (h:WF σ) (hf:Fr σ σ') {b:Nat} {k:Bk} (hb:σ.h b=some k):σ'.h b=some k:=by rw [hf.old b (h.lt hb)];exact hb
theorem Fr.new {σ σ' : St} (hf:Fr σ σ') (k:Bk):Fr σ ⟨hset σ'.h σ'.ah k,σ'.ah+1⟩ :=
 ⟨Nat.le_succ_of_le hf.le,fun b hb=>by
  have hb:σ'.ah+1≤b:=hb
  show hset σ'.h σ'.ah k b=none
  rw [ak _ _ _ _ jb];exact hf.wf b jb,fun b hb=>by
  show hset σ'.h σ'.ah k b=_
  have:=hf.le
  rw [ak _ _ _ _ jb];exact hf.old b hb⟩
theorem Fr.set {σ σ' : St} (hf:Fr σ σ') {b:Nat} (hb:σ.ah≤b) (hb2:b<σ'.ah) (k:Bk):Fr σ ⟨hset σ'.h b k,σ'.ah⟩ :=
 ⟨hf.le,fun j hj=>by
  have hj:σ'.ah≤j:=hj
  show hset σ'.h b k j=none
  rw [ak _ _ _ _ jb];exact hf.wf j hj,fun j hj=>by
  show hset σ'.h b k j=_
  rw [ak _ _ _ _ jb];exact hf.old j hj⟩
noncomputable def HL (h:Tr Bk) (e:Nat) (v:B) (n:Nat) (G:Nat→List B):Prop :=
 (n=0∧v = .aY)∨∃ b o c,v = .sl b o n c∧∀ i,i<n→ld h b (o+i*e) e true=some (.agg (G i))
def HC (h:Tr Bk) (v:B) (n:Nat) (G:Nat→B):Prop :=
 (n=0∧v = .aY)∨∃ b o c,v = .sl b o n c∧∀ i,i<n→ld h b (o+i*1) 1 false=some (.c (G i))
def lenV:V→Option V
 | .c (.sl _ _ n _)=>some (.c (.int .i64 (.ofNat n)))
 | .c .aY=>some (.c (.int .i64 (.ofNat 0)))
 | _=>none
theorem ahK (b o n:Nat) (c:Cap):lenV (.c (.sl b o n c))=some (.c (.int .i64 (.ofNat n))):=rfl
theorem aa5:lenV (.c .aY)=some (.c (.int .i64 (.ofNat 0))):=rfl
theorem HL.len {h:Tr Bk} {e:Nat} {v:B} {n:Nat} {G:Nat→List B} (hl:HL h e v n G):lenV (.c v)=some (.c (.int .i64 (.ofNat n))):=by
 rcases hl with ⟨rfl,rfl⟩|⟨b,o,c,rfl,-⟩ <;> rfl
theorem HC.len {h:Tr Bk} {v:B} {n:Nat} {G:Nat→B} (hl:HC h v n G):lenV (.c v)=some (.c (.int .i64 (.ofNat n))):=by
 rcases hl with ⟨rfl,rfl⟩|⟨b,o,c,rfl,-⟩ <;> rfl
theorem HL.pos {h:Tr Bk} {e:Nat} {v:B} {n:Nat} {G:Nat→List B} (hl:HL h e v n G) (hn:0<n) : ∃ b o c,v = .sl b o n c∧∀ i,i<n→ld h b (o+i*e) e true=some (.agg (G i)):=by
 rcases hl with ⟨rfl,-⟩|h
 ·omega
 ·exact h
theorem HC.pos {h:Tr Bk} {v:B} {n:Nat} {G:Nat→B} (hl:HC h v n G) (hn:0<n) : ∃ b o c,v = .sl b o n c∧∀ i,i<n→ld h b (o+i*1) 1 false=some (.c (G i)):=by
 rcases hl with ⟨rfl,-⟩|h
 ·omega
 ·exact h
theorem HL.fr {σ σ' : St} (hW:WF σ) (hf:Fr σ σ') {e:Nat} {v:B} {n:Nat} {G:Nat→List B} (hl:HL σ.h e v n G):HL σ'.h e v n G:=by
 rcases hl with h|⟨b,o,c,rfl,h⟩
 ·exact .inl h
 ·exact .inr ⟨b,o,c,rfl,fun i hi=>hf.ld hW (h i hi)⟩
theorem HC.fr {σ σ' : St} (hW:WF σ) (hf:Fr σ σ') {v:B} {n:Nat} {G:Nat→B} (hl:HC σ.h v n G):HC σ'.h v n G:=by
 rcases hl with h|⟨b,o,c,rfl,h⟩
 ·exact .inl h
 ·exact .inr ⟨b,o,c,rfl,fun i hi=>hf.ld hW (h i hi)⟩
/-! ### All of it, as one list of rules -/
section
variable (E:Env)
theorem aa6 (tm:Tr V) (σ:St) (Q:Tr V→St→Prop):wpOps E [] tm σ Q=Q tm σ:=rfl
theorem wpOps_cons (o:AO) (r:List AO) (tm:Tr V) (σ:St) (Q:Tr V→St→Prop):wpOps E (o::r) tm σ Q=wpG E o tm σ fun v σ'=>wpOps E r (Ap tm o.dst v) σ' Q:=rfl
variable (tm:Tr V) (σ:St) (K:V→St→Prop)
def EP (o:Option V) (K:V→Prop):Prop:=match o with|some v=>K v|none=>False
theorem adL (v:V) (K:V→Prop):EP (some v) K=K v:=rfl
theorem iL {op:qL} (h:op.kind = .q) (h2 : ∀ g l,op≠.call g l):wpOp E op tm σ K=EP (dB op tm σ) fun v=>K v σ:=by
 unfold wpOp
 split
 ·next g l=>exact absurd rfl (h2 g l)
 ·unfold lZ EP
  rw [h]
  dsimp only
  cases dB op tm σ <;> rfl
theorem alA (c a b:O):wpOp E (.pick c a b) tm σ K=EP (match c.ev tm with|.c (.bool t)=>some (bif t then a.ev tm else b.ev tm)|_=>none) fun v=>K v σ:=iL _ _ _ _ rfl fun _ _ h=>by cases h
theorem o_load (n:Nat) (g:Bool) (x:O):wpOp E (.load n g x) tm σ K=EP (match x.ev tm with|.c (.ptr b o)=>ld σ.h b o n g|_=>none) fun v=>K v σ:=iL _ _ _ _ rfl fun _ _ h=>by cases h
theorem ahL (off:Nat) (x:O):wpOp E (.yJ off x) tm σ K=EP (match x.ev tm with|.c (.ptr b o)=>some (.c (.ptr b (o+off)))|_=>none) fun v=>K v σ:=by
 rw [iL _ _ _ _ (by rfl) fun _ _ h=>by cases h]
 unfold dB Wv
 simp only [iY]
 rfl
theorem ahM (off n:Nat) (g:Bool) (x:O):wpOp E (.field off n g x) tm σ K=EP (match x.ev tm with|.agg l=>yw l off n g|_=>none) fun v=>K v σ:=iL _ _ _ _ rfl fun _ _ h=>by cases h
def iaV (e:Nat) (v:V) (i:V):Option V:=match v,Df i with|.c (.sl b o n _),some j=>(bif Nat.blt j n then some (.c (.ptr b (o+j*e))) else none)|_,_=>none
theorem ahN (e:Nat) (x i:O):wpOp E (.AB e x i) tm σ K=EP (iaV e (x.ev tm) (i.ev tm)) fun v=>K v σ:=by
 rw [iL _ _ _ _ (by rfl) fun _ _ h=>by cases h]
 unfold dB Wx iaV
 simp only [iY]
 rfl
theorem alB (e b o n j:Nat) (c:Cap) (h:j<n):iaV e (.c (.sl b o n c)) (.c (.int .i64 (.ofNat j)))=some (.c (.ptr b (o+j*e))):=by
 unfold iaV Df
 simp only [FZ h,cond_true]
theorem aph (i:Nat) (x:O):wpOp E (.ext i x) tm σ K=EP (adb i x tm) fun v=>K v σ:=iL _ _ _ _ rfl fun _ _ h=>by cases h
def adM:Nat→V→Option V
 | 0,.cZ a _=>some a
 | 1,.cZ _ (.cZ a _)=>some a
 | 2,.cZ _ (.cZ _ (.cZ a _))=>some a
 | _,_=>none
theorem alC (i:Nat) (x:O) (tm:Tr V):adb i x tm=adM i (x.ev tm):=by
 unfold adb adM
 generalize x.ev tm=v
 rcases v with _|_|_|_|_|⟨a,r⟩|_ <;> rcases i with _|_|_|i <;> (try rfl) <;> rcases r with _|_|_|_|_|⟨a2,r2⟩|_ <;> (try rfl) <;> rcases r2 with _|_|_|_|_|⟨a3,r3⟩|_ <;> rfl
theorem alD (a r:V):adM 0 (.cZ a r)=some a:=rfl
theorem alE (a b r:V):adM 1 (.cZ a (.cZ b r))=some b:=rfl
theorem alF (a b c r:V):adM 2 (.cZ a (.cZ b (.cZ c r)))=some c:=rfl
theorem apj (b:BinOp) (x y:O):wpOp E (.bin b x y) tm σ K=EP (qp b (x.ev tm) (y.ev tm)) fun v=>K v σ:=iL _ _ _ _ rfl fun _ _ h=>by cases h
theorem apk (a b:Int):qp .lss (.c (.int .i64 a)) (.c (.int .i64 b))=some (.c (.bool (decide (a<b)))):=rfl
theorem apl (a b:Int):qp .gtr (.c (.int .i64 a)) (.c (.int .i64 b))=some (.c (.bool (decide (b<a)))):=rfl
theorem apm (a b:Int):qp .leq (.c (.int .i64 a)) (.c (.int .i64 b))=some (.c (.bool (decide (a≤b)))):=rfl
theorem apn (a b:Int):qp .geq (.c (.int .i64 a)) (.c (.int .i64 b))=some (.c (.bool (decide (b≤a)))):=rfl
theorem apo (a b:Int):qp .eql (.c (.int .i64 a)) (.c (.int .i64 b))=some (.c (.bool (decide (a=b)))):=rfl
theorem apq (a b:Int):qp .neq (.c (.int .i64 a)) (.c (.int .i64 b))=some (.c (.bool (!decide (a=b)))):=rfl
theorem alG (a b:ByteArray):qp .eql (.c (.str a)) (.c (.str b))=some (.c (.bool (decide (a=b)))):=rfl
theorem alH (a b:ByteArray):qp .neq (.c (.str a)) (.c (.str b))=some (.c (.bool (!decide (a=b)))):=rfl
theorem apr (a b:Nat) (h:a+b≤9223372036854775807):qp .add (.c (.int .i64 (.ofNat a))) (.c (.int .i64 (.ofNat b)))=some (.c (.int .i64 (.ofNat (a+b)))):=by
 show mkI .i64 (Int.ofNat a+Int.ofNat b)=_
 rw [add_ofNat,PY h]
theorem aps (a b:Nat) (h:a≤9223372036854775807) (h2:b≤a):qp .sub (.c (.int .i64 (.ofNat a))) (.c (.int .i64 (.ofNat b)))=some (.c (.int .i64 (.ofNat (a - b)))):=by
 show mkI .i64 (Int.ofNat a - Int.ofNat b)=_
 rw [show Int.ofNat a - Int.ofNat b=Int.ofNat (a - b) by simp only [Int.ofNat_eq_natCast];omega,PY jb]
theorem ahO (p:Bool) (x y:O):wpOp E (.AL p x y) tm σ K=EP (match x.ev tm,y.ev tm with|.agg l,.agg r=>(match eqB l r with|some b=>some (.c (.bool (p == b)))|none=>none)|_,_=>none) fun v=>K v σ:=iL _ _ _ _ rfl fun _ _ h=>by cases h
theorem alI (a b c d:Int):eqL [.int .i64 a,.int .i64 b] [.int .i64 c,.int .i64 d]=some (decide (a=c) && decide (b=d)):=rfl
theorem ahP (p q:Rat):eqB [.bool (rn p),.str (rs p),.str (rd p)] [.bool (rn q),.str (rs q),.str (rd q)]=some (decide (p=q)):=by
 unfold eqB
 show (match eqS (.str (rs p)) (.str (rs q)),eqS (.str (rd p)) (.str (rd q)) with|some x,some y=>some (rn p == rn q && (x && y))|_,_=>none)=_
 show some (rn p == rn q && (decide (rs p=rs q) && decide (rd p=rd q)))=_
 congr 1
 by_cases h:p=q
 ·subst h;simp
 ·rw [decide_eq_false h]
  by_cases h1:rn p=rn q
  ·by_cases h2:rs p=rs q
   ·have h3:rd p≠rd q:=fun e=>h (IV h1 h2 e)
    simp [h1,h2,h3]
   ·simp [h1,h2]
  ·simp [h1]
def apt (k:Nat) (p:Bool) (v:V):Option V:=match k,v with
 | 0,.c (.sl ..)=>some (.c (.bool (!p)))
 | 0,.c .aY=>some (.c (.bool p))
 | 1,.c (.ptr ..)=>some (.c (.bool (!p)))
 | 1,.c .Px=>some (.c (.bool p))
 | 2,.fn ..=>some (.c (.bool (!p)))
 | 2,.Jl=>some (.c (.bool p))
 | _,_=>none
theorem apu (k:Nat) (p:Bool) (x:O):wpOp E (.nil k p x) tm σ K=EP (apt k p (x.ev tm)) fun v=>K v σ:=iL _ _ _ _ rfl fun _ _ h=>by cases h
theorem apv (x:O):wpOp E (.not x) tm σ K=EP (match x.ev tm with|.c (.bool b)=>some (.c (.bool !b))|_=>none) fun v=>K v σ:=iL _ _ _ _ rfl fun _ _ h=>by cases h
theorem ahQ (z:List B) (ps:List (Nat×Nat×O)):wpOp E (.build z ps) tm σ K=EP (match uU z (ps.map fun p=>(p.1,p.2.1,p.2.2.ev tm)) with|some l=>some (.agg l)|none=>none) fun v=>K v σ:=iL _ _ _ _ rfl fun _ _ h=>by cases h
theorem apw (x:O):wpOp E (.len x) tm σ K=EP (lenV (x.ev tm)) fun v=>K v σ:=iL _ _ _ _ rfl fun _ _ h=>by cases h
theorem alJ (x:O):wpOp E (.L9 x) tm σ K=EP (match x.ev tm with|.c (.ptr b o)=>some (.c (.ptr b o))|.fn f l=>some (.fn f l)|_=>none) fun v=>K v σ:=iL _ _ _ _ rfl fun _ _ h=>by cases h
theorem ahR (z:List B):wpOp E (.alloc z) tm σ K=K (.c (.ptr σ.ah 0)) ⟨hset σ.h σ.ah ⟨z,none⟩,σ.ah+1⟩:=by
 unfold wpOp lZ
 simp only [qL.kind,kC,kD]
theorem apx (x:O):wpOp E (.box x) tm σ K=match (x.ev tm).cells with|some l=>K (.c (.ptr σ.ah 0)) ⟨hset σ.h σ.ah ⟨l,none⟩,σ.ah+1⟩|none=>False:=by
 unfold wpOp lZ
 simp only [qL.kind,kC,kD]
 cases (x.ev tm).cells <;> rfl
theorem alK (bytes:Nat) (z:List B) (l c:O):wpOp E (.Gs bytes z l c) tm σ K=match Df (l.ev tm),Df (c.ev tm) with
  | some n,some m=>(bif Nat.ble n m && (Nat.ble (bytes*m) 281474976710656 && Nat.ble m 1073741824) then K (.c (.sl σ.ah 0 n (.ex m))) ⟨hset σ.h σ.ah ⟨rep z m,none⟩,σ.ah+1⟩ else False)
  | _,_=>False:=by
 unfold wpOp lZ
 simp only [qL.kind,kC,kD]
 generalize Df (l.ev tm)=A
 generalize Df (c.ev tm)=C
 cases A with
 | none=>rfl
 | some n =>
  cases C with
  | none=>rfl
  | some m =>
   dsimp only
   cases (Nat.ble n m && (Nat.ble (bytes*m) 281474976710656 && Nat.ble m 1073741824)) <;> rfl
theorem apy (e n:Nat) (z:List B) (ps:List (Nat×Nat×O)) (h:n*e≤16777216) (h' : n≤16777216):wpOp E (.bsl e n z ps) tm σ K=match uU (rep z n) (ps.map fun p=>(p.1,p.2.1,p.2.2.ev tm)) with
  | some l=>K (.c (.sl σ.ah 0 n (.ex n))) ⟨hset σ.h σ.ah ⟨l,none⟩,σ.ah+1⟩|none=>False:=by
 unfold wpOp lZ
 simp only [qL.kind,kC,kD,kX h,kX h',Bool.and_self,cond_true]
 cases uU (rep z n) (ps.map fun p=>(p.1,p.2.1,p.2.2.ev tm)) <;> rfl
theorem ahS (n:Nat) (a x:O):wpOp E (.store n a x) tm σ K=match a.ev tm,(x.ev tm).cells with
  | .c (.ptr b o),some vs=>(bif Nat.beq vs.length n then (match sto σ.h b o vs with|some h=>K .und ⟨h,σ.ah⟩|none=>False) else False)
  | _,_=>False:=by
 unfold wpOp lZ
 simp only [qL.kind,aa4]
 generalize a.ev tm=A
 generalize (x.ev tm).cells=C
 cases C with
 | none=>rcases A with ⟨_|_|_|_|_|_|_|_|_|_⟩|_|_|_|_|_|_ <;> rfl
 | some vs =>
  rcases A with ⟨_|_|_|_|⟨b,o⟩|_|_|_|_|_⟩|_|_|_|_|_|_ <;> try rfl
  dsimp only
  cases Nat.beq vs.length n with
  | false=>rfl
  | true =>
   simp only [cond_true]
   cases sto σ.h b o vs <;> rfl
theorem alL (g:O) (args:List O):wpOp E (.call g args) tm σ K=match g.ev tm with|.fn f caps=>aO E f (args.map (·.ev tm) ++ caps.map .c) σ K|_=>False:=rfl
end
end Go.Proofs.Xe
