/- The bH: how runs on values that are not known are worked out. -/
import Derived.Test.YtjonjhcaniinaaaGreatDoorZ17
import Derived.Test.YtjonjhcaniinaaaGreatDoorZ18
set_option linter.unusedSimpArgs false
set_option linter.unusedVariables false
set_option maxHeartbeats 8000000
namespace Go.Proofs.Xe
open Go.RowKit Go.Proofs.Ins
def szK:Nat:=60000000
def Sz (q:Rat):Prop:=Sm szK q
def SzN (a:Nat):Prop:=(bn a).size≤60000000
def rV (q:Rat):V:=.agg [.bool (rn q),.str (rs q),.str (rd q)]
def rbV (q:Rat) (b:Bool):V:=.bZ (rV q) (.bZ (.c (.bool b)) .tnil)
def iV (i:Int):V:=.c (.int .i64 i)
theorem abh {p q:Rat} (h:rV p=rV q):p=q:=by
 unfold rV at h
 simp only [V.agg.injEq,List.cons.injEq,B.bool.injEq,B.str.injEq,and_true] at h
 exact SC h.1 h.2.1 h.2.2
theorem Sz.sizes {p:Rat} (h:Sz p):(rs p).size≤60000000∧(rd p).size≤60000000:=⟨Sm.rs h,Sm.rd h⟩
theorem xC (q:Rat) (φ:Ph):RV φ (rV q) (rv q):=⟨_,rfl,rfl,rfl,rfl,trivial⟩
theorem aiE (q:Rat) (b:Bool) (φ:Ph):RV φ (rbV q b) (OC q b):=⟨_,[.bool b],rfl,xC q φ,.bool b,[],rfl,rfl,rfl⟩
def al0 (P : Program) (f : Nat) : Bool := match P.funcs[f]? with | some fn => !fn.body.isNone && !(fn.name == "runtime.NumGoroutine") | none => false
theorem dJ {P:Program} {f:Nat} (h:al0 P f=true):okF P f:=by
 unfold al0 at h
 split at h
 ·next fn hfn =>
  simp only [Bool.and_eq_true,Bool.not_eq_true'] at h
  exact ⟨fn,hfn,h.1,h.2⟩
 ·cases h
def Ct (P:Program) (f:Nat) (v:V) (aF:Array Value) (w:World):Prop :=
 Calls P f aF w fun e w'=>∃ cv,e = .returned cv∧Below w.heap.size w w'∧∀ φ',RV φ' v cv
variable {φ:Ph} {args:List V} {v:V} {aF:Array Value} {P:Program} {f:Nat}
theorem lY {x:V} (h:sV φ [x] aF.toList) : ∃ u,aF = #[u]∧RV φ x u:=by
 obtain ⟨l⟩:=aF
 match l,h with
 | [u],h=>exact ⟨u,rfl,h.1⟩
theorem lZ {x y:V} (h:sV φ [x,y] aF.toList) : ∃ u v,aF = #[u,v]∧RV φ x u∧RV φ y v:=by
 obtain ⟨l⟩:=aF
 match l,h with
 | [u,v],h=>exact ⟨u,v,rfl,h.1,h.2.1⟩
theorem Ii {x y z:V} (h:sV φ [x,y,z] aF.toList) : ∃ u v t,aF = #[u,v,t]∧RV φ x u∧RV φ y v∧RV φ z t:=by
 obtain ⟨l⟩:=aF
 match l,h with
 | [u,v,t],h=>exact ⟨u,v,t,rfl,h.1,h.2.1,h.2.2.1⟩
theorem rY {n:Bool} {s d:ByteArray} {cv:Value} (h:RV φ (.agg [.bool n,.str s,.str d]) cv):cv = .agg #[.bool n,.string s,.string d]:=by
 obtain ⟨r,e,hr⟩:=h
 obtain ⟨l⟩:=r
 match l,hr with
 | [a,b,c],⟨h1,h2,h3,_⟩ =>
  simp only [RB] at h1 h2 h3
  rw [e,h1,h2,h3]
theorem nC {c:Prop} [Decidable c] {x y:List V→Option V} {a:List V} {v:V} (h:(if c then x else y) a=some v):(c∧x a=some v)∨(¬ c∧y a=some v):=by
 by_cases hc:c
 ·rw [if_pos hc] at h;exact .inl ⟨hc,h⟩
 ·rw [if_neg hc] at h;exact .inr ⟨hc,h⟩
inductive FT where
 | leaf
 | node (k:Nat) (F:AF) (l r:FT)
def FT.find:FT→Nat→Option AF
 | .leaf,_=>none
 | .node k F l r,f=>bif Nat.beq f k then some F else bif Nat.blt f k then l.find f else r.find f
def FT.all (p:Nat→AF→Bool):FT→Bool
 | .leaf=>true
 | .node k F l r=>p k F && (l.all p && r.all p)
abbrev ki (n:Nat):O:=.k (.c (.int .i64 (.ofNat n)))
abbrev kf (n:Nat):O:=.k (.fn n [])
abbrev kb (b:Bool):O:=.k (.c (.bool b))
abbrev d (n:Nat):Option Nat:=some n
abbrev s0:B:=.str ⟨#[]⟩
abbrev i0:B:=.int .i64 (.ofNat 0)
noncomputable section
open Classical in
def kR2 (R:Rat→Rat→V):List V→Option V
 | [.agg [.bool n,.str s,.str d],.agg [.bool m,.str t,.str e]]=>if s.size+d.size≤130000000∧t.size+e.size≤130000000 then some (R (rq n s d) (rq m t e)) else none
 | _=>none
open Classical in
def kR1 (R:Rat→V):List V→Option V
 | [.agg [.bool n,.str s,.str d]]=>if s.size+d.size≤130000000 then some (R (rq n s d)) else none
 | _=>none
open Classical in
def k2 (R:Rat→Rat→V) (args:List V):Option V:=if h : ∃ x:Rat×Rat,args=[rV x.1,rV x.2]∧Sz x.1∧Sz x.2 then some (R (Classical.choose h).1 (Classical.choose h).2) else none
open Classical in
def kO (R:Rat→Rat→V) (args:List V):Option V:=if h : ∃ x:Rat×Rat,args=[rV x.1,rV x.2]∧Sz x.1∧Sz x.2∧x.2≠0 then some (R (Classical.choose h).1 (Classical.choose h).2) else none
open Classical in
def k1 (R:Rat→V) (args:List V):Option V:=if h : ∃ p:Rat,args=[rV p]∧Sz p then some (R (Classical.choose h)) else none
open Classical in
def kN2 (R:Nat→Nat→V) (args:List V):Option V:=if h : ∃ x:Nat×Nat,args=[.c (.str (bn x.1)),.c (.str (bn x.2))]∧SzN x.1∧SzN x.2 then some (R (Classical.choose h).1 (Classical.choose h).2) else none
open Classical in
def kND (R:Nat→Nat→V) (args:List V):Option V:=if h : ∃ x:Nat×Nat,args=[.c (.str (bn x.1)),.c (.str (bn x.2))]∧SzN x.1∧SzN x.2∧0<x.2 then some (R (Classical.choose h).1 (Classical.choose h).2) else none
open Classical in
def kMk (R:Bool→Nat→Nat→V) (args:List V):Option V:=if h : ∃ x:Bool×Nat×Nat,args=[.c (.bool x.1),.c (.str (bn x.2.1)),.c (.str (bn x.2.2))]∧SzN x.2.1∧SzN x.2.2∧0<x.2.2 then some (R (Classical.choose h).1 (Classical.choose h).2.1 (Classical.choose h).2.2) else none
def kI (R:Int→V):List V→Option V
 | [.c (.int .i64 i)]=>if -9223372036854775808≤i∧i≤9223372036854775807 then some (R i) else none
 | _=>none
def kQ (R:Int→Int→V):List V→Option V
 | [.c (.int .i64 i),.c (.int .i64 j)]=>if (-9223372036854775808≤i∧i≤9223372036854775807)∧0<j∧j≤9223372036854775807 then some (R i j) else none
 | _=>none
def kU (R:Nat→V):List V→Option V
 | [.c (.int .u16 i)]=>if 0≤i∧i≤65535 then some (R i.toNat) else none
 | _=>none
def kF (R:Nat→V):List V→Option V
 | [.c (.int .u64 i)]=>if 0≤i∧i<18446744073709551616 then some (R i.toNat) else none
 | _=>none
def k0 (v:V):List V→Option V
 | []=>some v
 | _=>none
end
theorem Si {a b:Nat} (h:bn a=bn b):a=b:=by rw [← bJ a,← bJ b,h]
theorem Dk (R:Rat→Rat→V) {p q:Rat} (hp:Sz p) (hq:Sz q):kR2 R [rV p,rV q]=some (R p q):=by
 unfold kR2 rV
 have:=hp.sizes;have:=hq.sizes
 simp only
 rw [if_pos (by omega),DU,DU]
theorem aiF (R:Rat→V) {p:Rat} (hp:Sz p):kR1 R [rV p]=some (R p):=by
 unfold kR1 rV
 have:=hp.sizes
 simp only
 rw [if_pos (by omega),DU]
theorem al1 (R:Rat→Rat→V) {p q:Rat} (hp:Sz p) (hq:Sz q):k2 R [rV p,rV q]=some (R p q):=by
 have h : ∃ x:Rat×Rat,[rV p,rV q]=[rV x.1,rV x.2]∧Sz x.1∧Sz x.2:=⟨(p,q),rfl,hp,hq⟩
 have h2:=(Classical.choose_spec h).1
 unfold k2
 rw [dif_pos h]
 generalize Classical.choose h=z at h2 ⊢
 simp only [List.cons.injEq,and_true] at h2
 rw [← abh h2.1,← abh h2.2]
theorem al2 (R:Int→V) {i:Int} (h1 : -9223372036854775808≤i) (h2:i≤9223372036854775807):kI R [.c (.int .i64 i)]=some (R i):=by
 unfold kI;simp only;rw [if_pos ⟨h1,h2⟩]
theorem al3 (R:Nat→V) {x:Nat} (h1:x≤65535):kU R [.c (.int .u16 (x:Int))]=some (R x):=by
 unfold kU;simp only;rw [if_pos (by omega),Int.toNat_natCast]
theorem zA {R:Rat→Rat→V} (hc : ∀ n1 s1 d1 n2 s2 d2 w,s1.size+d1.size≤130000000→s2.size+d2.size≤130000000→Ct P f (R (rq n1 s1 d1) (rq n2 s2 d2)) #[.agg #[.bool n1,.string s1,.string d1],.agg #[.bool n2,.string s2,.string d2]] w)
  (h:kR2 R args=some v) (ha:sV φ args aF.toList) (w:World):Ct P f v aF w:=by
 unfold kR2 at h
 split at h
 ·split at h
  ·next hs =>
   cases h
   obtain ⟨u,v,rfl,hu,hv⟩:=lZ ha
   rw [rY hu,rY hv]
   exact hc _ _ _ _ _ _ w hs.1 hs.2
  ·cases h
 ·cases h
theorem abj {R:Rat→V} (hc : ∀ n s d w,s.size+d.size≤130000000→Ct P f (R (rq n s d)) #[.agg #[.bool n,.string s,.string d]] w)
  (h:kR1 R args=some v) (ha:sV φ args aF.toList) (w:World):Ct P f v aF w:=by
 unfold kR1 at h
 split at h
 ·split at h
  ·next hs =>
   cases h
   obtain ⟨u,rfl,hu⟩:=lY ha
   rw [rY hu]
   exact hc _ _ _ w hs
  ·cases h
 ·cases h
theorem al4 {R:Rat→Rat→V} (hc : ∀ p q w,Sz p→Sz q→Ct P f (R p q) #[.agg #[.bool (rn p),.string (rs p),.string (rd p)],.agg #[.bool (rn q),.string (rs q),.string (rd q)]] w)
  (h:k2 R args=some v) (ha:sV φ args aF.toList) (w:World):Ct P f v aF w:=by
 unfold k2 at h
 split at h
 ·next hx =>
  obtain ⟨h1,h2,h3⟩:=Classical.choose_spec hx
  cases h
  rw [h1] at ha
  obtain ⟨u,v,rfl,hu,hv⟩:=lZ ha
  rw [rY hu,rY hv]
  exact hc _ _ w h2 h3
 ·cases h
theorem ahx {R:Int→V} (hc : ∀ i w,-9223372036854775808≤i→i≤9223372036854775807→Ct P f (R i) #[.int .i64 i] w) (h:kI R args=some v) (ha:sV φ args aF.toList) (w:World):Ct P f v aF w:=by
 unfold kI at h
 split at h
 ·split at h
  ·next hs =>
   cases h
   obtain ⟨u,rfl,hu⟩:=lY ha
   have hu:u=_:=hu
   rw [hu]
   exact hc _ w hs.1 hs.2
  ·cases h
 ·cases h
theorem al5 {R:Nat→V} (hc : ∀ (x:Nat) w,x≤65535→Ct P f (R x) #[.int .u16 (x:Int)] w) (h:kU R args=some v) (ha:sV φ args aF.toList) (w:World):Ct P f v aF w:=by
 unfold kU at h
 split at h
 ·next i =>
  split at h
  ·next hs =>
   cases h
   obtain ⟨u,rfl,hu⟩:=lY ha
   have hu:u = .int .u16 i:=hu
   have:=hc i.toNat w (by omega)
   rw [Int.toNat_of_nonneg hs.1] at this
   rw [hu];exact this
  ·cases h
 ·cases h
noncomputable section
def qK (f:Nat):List V→Option V :=
 if f=17 then kR2 (fun p q=>rV (p+q))
 else if f=18 then kR2 (fun p q=>rV (p - q))
 else if f=22 then kR2 (fun p q=>rV (p*q))
 else if f=108 then kR2 (fun p q=>rbV (vF p q) (okR q))
 else if f=11 then kR2 (fun p q=>iV (ku p q))
 else if f=128 then kR2 (fun p q=>rV (GN p q))
 else if f=58 then kR2 (fun p q=>rV (yL p q))
 else if f=12 then kR1 (fun p=>iV (sg p))
 else if f=23 then kI (fun i=>rV (i:Rat))
 else if f=45 then kI (fun i=>rV (i:Rat))
 else if f=24 then kU (fun x=>rV (amt x))
 else if f=41 then k2 (fun p q=>rV (p+q))
 else if f=34 then kR1 (fun p=>rV p)
 else fun _=>none
set_option maxRecDepth 100000 in
theorem ae5 (f:Nat) (args:List V) (v:V) (h:qK f args=some v):okF Tryz.prog f∧∀ (φ:Ph) (aF:Array Value) (w:World),sV φ args aF.toList→Ct Tryz.prog f v aF w:=by
 unfold qK at h
 replace h:=nC h
 rcases h with ⟨e,h⟩|⟨-,h⟩
 ·subst e
  exact ⟨dJ (by kernel_rfl),fun φ aF w ha=>zA (R:=fun p q=>rV (p+q)) (fun n1 s1 d1 n2 s2 d2 w h1 h2=>(Wy n1 s1 d1 n2 s2 d2 w (by omega) (by omega)).mono fun _ _ he=>⟨_,he.1,he.2,fun φ=>xC _ φ⟩) h ha w⟩
 replace h:=nC h
 rcases h with ⟨e,h⟩|⟨-,h⟩
 ·subst e
  exact ⟨dJ (by kernel_rfl),fun φ aF w ha=>zA (R:=fun p q=>rV (p - q)) (fun n1 s1 d1 n2 s2 d2 w h1 h2=>(Nu n1 s1 d1 n2 s2 d2 w (by omega) (by omega)).mono fun _ _ he=>⟨_,he.1,he.2,fun φ=>xC _ φ⟩) h ha w⟩
 replace h:=nC h
 rcases h with ⟨e,h⟩|⟨-,h⟩
 ·subst e
  exact ⟨dJ (by kernel_rfl),fun φ aF w ha=>zA (R:=fun p q=>rV (p*q)) (fun n1 s1 d1 n2 s2 d2 w h1 h2=>(Au n1 s1 d1 n2 s2 d2 w (by omega) (by omega)).mono fun _ _ he=>⟨_,he.1,he.2,fun φ=>xC _ φ⟩) h ha w⟩
 replace h:=nC h
 rcases h with ⟨e,h⟩|⟨-,h⟩
 ·subst e
  exact ⟨dJ (by kernel_rfl),fun φ aF w ha=>zA (R:=fun p q=>rbV (vF p q) (okR q)) (fun n1 s1 d1 n2 s2 d2 w h1 h2=>(GH n1 s1 d1 n2 s2 d2 w (by omega) (by omega)).mono fun _ _ he=>⟨_,he.1,he.2,fun φ=>aiE _ _ φ⟩) h ha w⟩
 replace h:=nC h
 rcases h with ⟨e,h⟩|⟨-,h⟩
 ·subst e
  exact ⟨dJ (by kernel_rfl),fun φ aF w ha=>zA (R:=fun p q=>iV (ku p q)) (fun n1 s1 d1 n2 s2 d2 w h1 h2=>(rQ n1 s1 d1 n2 s2 d2 w (by omega) (by omega)).mono fun _ _ he=>⟨_,he.1,he.2,fun φ=>rfl⟩) h ha w⟩
 replace h:=nC h
 rcases h with ⟨e,h⟩|⟨-,h⟩
 ·subst e
  exact ⟨dJ (by kernel_rfl),fun φ aF w ha=>zA (R:=fun p q=>rV (GN p q)) (fun n1 s1 d1 n2 s2 d2 w h1 h2=>(VY n1 s1 d1 n2 s2 d2 w (by omega) (by omega)).mono fun _ _ he=>⟨_,he.1,he.2,fun φ=>xC _ φ⟩) h ha w⟩
 replace h:=nC h
 rcases h with ⟨e,h⟩|⟨-,h⟩
 ·subst e
  exact ⟨dJ (by kernel_rfl),fun φ aF w ha=>zA (R:=fun p q=>rV (yL p q)) (fun n1 s1 d1 n2 s2 d2 w h1 h2=>(VZ n1 s1 d1 n2 s2 d2 w (by omega) (by omega)).mono fun _ _ he=>⟨_,he.1,he.2,fun φ=>xC _ φ⟩) h ha w⟩
 replace h:=nC h
 rcases h with ⟨e,h⟩|⟨-,h⟩
 ·subst e
  exact ⟨dJ (by kernel_rfl),fun φ aF w ha=>abj (R:=fun p=>iV (sg p)) (fun n s d w h1=>(Gz n s d w (by omega) (by omega)).mono fun _ _ he=>⟨_,he.1,he.2,fun φ=>rfl⟩) h ha w⟩
 replace h:=nC h
 rcases h with ⟨e,h⟩|⟨-,h⟩
 ·subst e
  exact ⟨dJ (by kernel_rfl),fun φ aF w ha=>ahx (R:=fun i=>rV (i:Rat)) (fun i w h1 h2=>(VX i w h1 h2).mono fun _ _ he=>⟨_,he.1,he.2,fun φ=>xC _ φ⟩) h ha w⟩
 replace h:=nC h
 rcases h with ⟨e,h⟩|⟨-,h⟩
 ·subst e
  exact ⟨dJ (by kernel_rfl),fun φ aF w ha=>ahx (R:=fun i=>rV (i:Rat)) (fun i w h1 h2=>(yx i w h1 h2).mono fun _ _ he=>⟨_,he.1,he.2,fun φ=>xC _ φ⟩) h ha w⟩
 replace h:=nC h
 rcases h with ⟨e,h⟩|⟨-,h⟩
 ·subst e
  exact ⟨dJ (by kernel_rfl),fun φ aF w ha=>al5 (R:=fun x=>rV (amt x)) (fun x w h1=>(TA x w h1).mono fun _ _ he=>⟨_,he.1,he.2,fun φ=>xC _ φ⟩) h ha w⟩
 replace h:=nC h
 rcases h with ⟨e,h⟩|⟨-,h⟩
 ·subst e
  exact ⟨dJ (by kernel_rfl),fun φ aF w ha=>al4 (R:=fun p q=>rV (p+q)) (fun p q w hp hq=>(yF p q szK szK w hp hq (by unfold szK;omega)).mono fun _ _ he=>⟨_,he.1,he.2,fun φ=>xC _ φ⟩) h ha w⟩
 replace h:=nC h
 rcases h with ⟨e,h⟩|⟨-,h⟩
 ·subst e
  exact ⟨dJ (by kernel_rfl),fun φ aF w ha=>abj (R:=fun p=>rV p) (fun n s d w h1=>(clean_any n s d w (by omega) (by omega)).mono fun _ _ he=>⟨_,he.1,he.2,fun φ=>xC _ φ⟩) h ha w⟩
 cases h
def Uf (f:Nat) (args:List V) (σ:St):Option (V×St):=match qK f args with|some v=>some (v,σ)|none=>none
theorem ae6 (f:Nat) (args:List V) (σ:St) (v:V) (σ' : St) (h:Uf f args σ=some (v,σ')):okF Tryz.prog f∧∀ (N:Nat) (w0:World) (φ:Ph) (w:World) (aF:Array Value),Rel N w0 φ σ w→sV φ args aF.toList →
  Calls Tryz.prog f aF w fun e w'=>∃ cv,e = .returned cv∧∃ φ',Ext σ.ah φ φ'∧Rel N w0 φ' σ' w'∧RV φ' v cv∧σ.ah≤σ'.ah:=by
 unfold Uf at h
 split at h
 ·next u hu =>
  cases h
  obtain ⟨h1,h2⟩:=ae5 f args _ hu
  refine ⟨h1,fun N w0 φ w aF hR ha=>(h2 φ aF w ha).mono fun e w' he=>?_⟩
  obtain ⟨cv,rfl,hb,hv⟩:=he
  exact ⟨cv,rfl,φ,Ext.refl _ _,hR.below hb,hv φ,Nat.le_refl _⟩
 ·cases h
class wE (E:Env):Prop where
 o : ∀ f args σ v,qK f args=some v→E.orc f args σ=some (v,σ)
theorem eX {E:Env} [hE:wE E] {f:Nat} {args:List V} {v:V} {σ:St} {K:V→St→Prop} (h:qK f args=some v):aT E f args σ K=K v σ:=by
 refine propext ⟨fun ⟨n,v',σ',h1,h2⟩=>?_,fun hk=>PZ (hE.o f args σ v h) hk⟩
 have h3:fQ E 1 f args σ=some (v,σ):=by rw [fQ];unfold AP;rw [hE.o f args σ v h]
 have a:=jT (show n≤n+1 by omega) f args σ _ h1
 have b:=jT (show 1≤n+1 by omega) f args σ _ h3
 rw [a] at b
 cases b
 exact h2
section
variable {E:Env} {σ:St} {K:V→St→Prop}
theorem al6 [wE E] (p q:Rat) (hp:Sz p) (hq:Sz q):aT E 17 [.agg [.bool (rn p),.str (rs p),.str (rd p)],.agg [.bool (rn q),.str (rs q),.str (rd q)]] σ K=K (.agg [.bool (rn (p+q)),.str (rs (p+q)),.str (rd (p+q))]) σ:=eX (by unfold qK;simp only [Nat.reduceEqDiff,reduceIte];exact Dk _ hp hq)
theorem aiG [wE E] (n m:Bool) (s d t e:ByteArray) (h1:s.size+d.size≤130000000) (h2:t.size+e.size≤130000000):aT E 17 [.agg [.bool n,.str s,.str d],.agg [.bool m,.str t,.str e]] σ K=K (.agg [.bool (rn ((rq n s d)+(rq m t e))),.str (rs ((rq n s d)+(rq m t e))),.str (rd ((rq n s d)+(rq m t e)))]) σ:=eX (by unfold qK;simp only [Nat.reduceEqDiff,reduceIte];exact if_pos (by omega))
theorem Ug [wE E] (p q:Rat) (hp:Sz p) (hq:Sz q):aT E 18 [.agg [.bool (rn p),.str (rs p),.str (rd p)],.agg [.bool (rn q),.str (rs q),.str (rd q)]] σ K=K (.agg [.bool (rn (p - q)),.str (rs (p - q)),.str (rd (p - q))]) σ:=eX (by unfold qK;simp only [Nat.reduceEqDiff,reduceIte];exact Dk _ hp hq)
theorem P7 [wE E] (n m:Bool) (s d t e:ByteArray) (h1:s.size+d.size≤130000000) (h2:t.size+e.size≤130000000):aT E 18 [.agg [.bool n,.str s,.str d],.agg [.bool m,.str t,.str e]] σ K=K (.agg [.bool (rn ((rq n s d) - (rq m t e))),.str (rs ((rq n s d) - (rq m t e))),.str (rd ((rq n s d) - (rq m t e)))]) σ:=eX (by unfold qK;simp only [Nat.reduceEqDiff,reduceIte];exact if_pos (by omega))
theorem Uh [wE E] (p q:Rat) (hp:Sz p) (hq:Sz q):aT E 22 [.agg [.bool (rn p),.str (rs p),.str (rd p)],.agg [.bool (rn q),.str (rs q),.str (rd q)]] σ K=K (.agg [.bool (rn (p*q)),.str (rs (p*q)),.str (rd (p*q))]) σ:=eX (by unfold qK;simp only [Nat.reduceEqDiff,reduceIte];exact Dk _ hp hq)
theorem abk [wE E] (p q:Rat) (hp:Sz p) (hq:Sz q):aT E 108 [.agg [.bool (rn p),.str (rs p),.str (rd p)],.agg [.bool (rn q),.str (rs q),.str (rd q)]] σ K=K (.bZ (.agg [.bool (rn (vF p q)),.str (rs (vF p q)),.str (rd (vF p q))]) (.bZ (.c (.bool (okR q))) .tnil)) σ:=eX (by unfold qK;simp only [Nat.reduceEqDiff,reduceIte];exact Dk _ hp hq)
theorem Yx [wE E] (p q:Rat) (hp:Sz p) (hq:Sz q):aT E 11 [.agg [.bool (rn p),.str (rs p),.str (rd p)],.agg [.bool (rn q),.str (rs q),.str (rd q)]] σ K=K (.c (.int .i64 (ku p q))) σ:=eX (by unfold qK;simp only [Nat.reduceEqDiff,reduceIte];exact Dk _ hp hq)
theorem aiH [wE E] (n m:Bool) (s d t e:ByteArray) (h1:s.size+d.size≤130000000) (h2:t.size+e.size≤130000000):aT E 128 [.agg [.bool n,.str s,.str d],.agg [.bool m,.str t,.str e]] σ K=K (.agg [.bool (rn (GN (rq n s d) (rq m t e))),.str (rs (GN (rq n s d) (rq m t e))),.str (rd (GN (rq n s d) (rq m t e)))]) σ:=eX (by unfold qK;simp only [Nat.reduceEqDiff,reduceIte];exact if_pos (by omega))
theorem al7 [wE E] (p q:Rat) (hp:Sz p) (hq:Sz q):aT E 58 [.agg [.bool (rn p),.str (rs p),.str (rd p)],.agg [.bool (rn q),.str (rs q),.str (rd q)]] σ K=K (.agg [.bool (rn (yL p q)),.str (rs (yL p q)),.str (rd (yL p q))]) σ:=eX (by unfold qK;simp only [Nat.reduceEqDiff,reduceIte];exact Dk _ hp hq)
theorem aiI [wE E] (n m:Bool) (s d t e:ByteArray) (h1:s.size+d.size≤130000000) (h2:t.size+e.size≤130000000):aT E 58 [.agg [.bool n,.str s,.str d],.agg [.bool m,.str t,.str e]] σ K=K (.agg [.bool (rn (yL (rq n s d) (rq m t e))),.str (rs (yL (rq n s d) (rq m t e))),.str (rd (yL (rq n s d) (rq m t e)))]) σ:=eX (by unfold qK;simp only [Nat.reduceEqDiff,reduceIte];exact if_pos (by omega))
theorem ae7 [wE E] (n:Bool) (s d:ByteArray) (h1:s.size+d.size≤130000000):aT E 12 [.agg [.bool n,.str s,.str d]] σ K=K (.c (.int .i64 (sg (rq n s d)))) σ:=eX (by unfold qK;simp only [Nat.reduceEqDiff,reduceIte];exact if_pos (by omega))
theorem P8 [wE E] (i:Int) (h1 : -9223372036854775808≤i) (h2:i≤9223372036854775807):aT E 45 [.c (.int .i64 i)] σ K=K (.agg [.bool (rn (i:Rat)),.str (rs (i:Rat)),.str (rd (i:Rat))]) σ:=eX (by unfold qK;simp only [Nat.reduceEqDiff,reduceIte];exact al2 _ h1 h2)
theorem Yy [wE E] (x:Nat) (h1:x≤65535):aT E 24 [.c (.int .u16 (.ofNat x))] σ K=K (.agg [.bool (rn (amt x)),.str (rs (amt x)),.str (rd (amt x))]) σ:=eX (by unfold qK;simp only [Nat.reduceEqDiff,reduceIte];exact al3 _ h1)
theorem al8 [wE E] (p q:Rat) (hp:Sz p) (hq:Sz q):aT E 41 [.agg [.bool (rn p),.str (rs p),.str (rd p)],.agg [.bool (rn q),.str (rs q),.str (rd q)]] σ K=K (.agg [.bool (rn (p+q)),.str (rs (p+q)),.str (rd (p+q))]) σ:=eX (by unfold qK;simp only [Nat.reduceEqDiff,reduceIte];exact al1 _ hp hq)
theorem ae8 [wE E] (p:Rat) (hp:Sz p):aT E 34 [.agg [.bool (rn p),.str (rs p),.str (rd p)]] σ K=K (.agg [.bool (rn p),.str (rs p),.str (rd p)]) σ:=eX (by unfold qK;simp only [Nat.reduceEqDiff,reduceIte];exact aiF _ hp)
end
end
end Go.Proofs.Xe
namespace Go.Proofs.Xe
open Go.RowKit Go.Proofs.Ins
/-! ### ahy -/
theorem Yz (tm:Tr V) (d:Nat) (v:V):Tr.aj (yM tm (some d) v) d=v:=by unfold Tr.aj yM;dsimp only;rw [Tr.jZ,if_pos rfl]
theorem ae9 (tm:Tr V) (d j:Nat) (v:V) (h:j≠d):Tr.aj (yM tm (some d) v) j=Tr.aj tm j:=by
 unfold Tr.aj yM
 dsimp only
 rw [Tr.jZ,if_neg h]
theorem YB (tm:Tr V) (v:V):yM tm none v=tm:=rfl
theorem YC (a:V) (l:List V):Tr.aj (ini (a::l)) 0=a:=by unfold Tr.aj;rw [rX];rfl
theorem YD (a b:V) (l:List V):Tr.aj (ini (a::b::l)) 1=b:=by unfold Tr.aj;rw [rX];rfl
theorem YE (a b c:V) (l:List V):Tr.aj (ini (a::b::c::l)) 2=c:=by unfold Tr.aj;rw [rX];rfl
theorem YF (a b c d:V) (l:List V):Tr.aj (ini (a::b::c::d::l)) 3=d:=by unfold Tr.aj;rw [rX];rfl
theorem YG (a b c d e:V) (l:List V):Tr.aj (ini (a::b::c::d::e::l)) 4=e:=by unfold Tr.aj;rw [rX];rfl
theorem YH (a b c d e f:V) (l:List V):Tr.aj (ini (a::b::c::d::e::f::l)) 5=f:=by unfold Tr.aj;rw [rX];rfl
theorem YI (a b c d e f g:V) (l:List V):Tr.aj (ini (a::b::c::d::e::f::g::l)) 6=g:=by unfold Tr.aj;rw [rX];rfl
theorem YJ (a b c d e f g i:V) (l:List V):Tr.aj (ini (a::b::c::d::e::f::g::i::l)) 7=i:=by unfold Tr.aj;rw [rX];rfl
theorem aom (tm:Tr V) (i:Nat):O.ev tm (.t i)=Tr.aj tm i:=rfl
theorem aon (tm:Tr V) (v:V):O.ev tm (.k v)=v:=rfl
theorem z3 (l:List B):(B.bool false::s0::s0::l)=(.bool (rn 0) :: .str (rs 0) :: .str (rd 0)::l):=rfl
/-! ### The heap -/
noncomputable def hset (h:Tr Bk) (b:Nat) (k:Bk):Tr Bk:=h.set b (some k)
theorem au (h:Tr Bk) (b:Nat) (k:Bk):hset h b k b=some k:=by unfold hset;rw [Tr.jZ,if_pos rfl]
theorem ak (h:Tr Bk) (b j:Nat) (k:Bk) (e:j≠b):hset h b k j=h j:=by unfold hset;rw [Tr.jZ,if_neg e]
noncomputable def ld (h:Tr Bk) (b o n:Nat) (g:Bool):Option V:=match h b with|some k=>bif k.rd then wV k.cells o n g else none|none=>none
noncomputable def sto (h:Tr Bk) (b o:Nat) (vs:List B):Option (Tr Bk):=match h b with
 | some k=>(match bif k.pl then rU k.cells o vs else none with|some l=>some (hset h b ⟨l,k.opn⟩)|none=>none)
 | none=>none
theorem abl (n:Nat) (g:Bool) (x:O) (tm:Tr V) (σ:St):V9 n g x tm σ=match x.ev tm with|.c (.ptr b o)=>ld σ.h b o n g|_=>none:=rfl
theorem YK (n:Nat) (a x:O) (tm:Tr V) (σ:St):nY (.store n a x) tm σ=match a.ev tm,(x.ev tm).cells with
  | .c (.ptr b o),some vs=>bif Nat.beq vs.length n then (match sto σ.h b o vs with|some h=>some (.und,⟨h,σ.ah⟩)|none=>none) else none
  | _,_=>none:=by
 unfold nY sto
 dsimp only
 generalize O.ev tm a=va
 generalize (O.ev tm x).cells=vc
 cases vc with
 | none=>split <;> (try split) <;> first|rfl|simp_all
 | some vs =>
  split
  ·next b o vs' e =>
   cases e
   dsimp only
   cases Nat.beq vs.length n with
   | false=>rfl
   | true =>
    simp only [cond_true]
    cases σ.h b with
    | none=>rfl
    | some k =>
     dsimp only
     cases (bif k.pl then rU k.cells o vs else none) with
     | none=>rfl
     | some l=>rfl
  ·next hne =>
   split
   ·next b o vs2 e=>exact (hne b o vs rfl rfl).elim
   ·rfl
theorem jH (σ:St) (k:Bk):σ.new k=some (σ.ah,⟨hset σ.h σ.ah k,σ.ah+1⟩):=by
 unfold St.new Tr.put
 dsimp only
 rw [iJ];rfl
theorem afa (h:Tr Bk) (b:Nat) (k:Bk) (o n:Nat) (g:Bool):ld (hset h b k) b o n g=bif k.rd then wV k.cells o n g else none:=by unfold ld;rw [au]
theorem al9 (h:Tr Bk) (b j:Nat) (k:Bk) (o n:Nat) (g:Bool) (e:j≠b):ld (hset h b k) j o n g=ld h j o n g:=by
 unfold ld
 rw [ak _ _ _ _ e]
theorem abm (h:Tr Bk) (b:Nat) (k:Bk) (o:Nat) (vs:List B):sto (hset h b k) b o vs=match bif k.pl then rU k.cells o vs else none with|some l=>some (hset (hset h b k) b ⟨l,k.opn⟩)|none=>none:=by
 unfold sto
 rw [au]
theorem aiJ (h:Tr Bk) (b j:Nat) (k:Bk) (o:Nat) (vs:List B) (e:j≠b):sto (hset h b k) j o vs=match h j with|some k'=>(match bif k'.pl then rU k'.cells o vs else none with|some l=>some (hset (hset h b k) j ⟨l,k'.opn⟩)|none=>none)|none=>none:=by
 unfold sto
 rw [ak _ _ _ _ e]
/-! ### Small things -/
theorem aoo {α:Sort _} (a b:α):(bif true then a else b)=a:=rfl
theorem aop {α:Sort _} (a b:α):(bif false then a else b)=b:=rfl
theorem Ea {a b:Nat} (h:a<b):Nat.blt a b=true:=Nat.ble_eq_true_of_le h
theorem jQ {a b:Nat} (h:a≤b):Nat.ble a b=true:=Nat.ble_eq_true_of_le h
theorem WA (a:Nat):Nat.beq a a=true:=by simp
theorem KI {a b:Nat} (h:a≠b):Nat.beq a b=false:=by
 cases hb:Nat.beq a b with
 | false=>rfl
 | true=>exact absurd (Nat.eq_of_beq_eq_true hb) h
theorem Nv {n:Nat} (h:n≤9223372036854775807):mkI .i64 (.ofNat n)=some (.c (.int .i64 (.ofNat n))):=by
 unfold mkI
 rw [aho]
 unfold Jj
 dsimp only
 rw [jQ h];rfl
theorem add_ofNat (a b:Nat):(Int.ofNat a+Int.ofNat b)=Int.ofNat (a+b):=rfl
theorem aV (a b:Nat):decide (Int.ofNat a<Int.ofNat b)=decide (a<b):=by simp
/-! ### Facts on the heap -/
def WF (σ:St):Prop:=∀ b,σ.ah≤b→σ.h b=none
structure Fr (σ σ' : St):Prop where
 le:σ.ah≤σ'.ah
 wf:WF σ'
 old : ∀ b,b<σ.ah→σ'.h b=σ.h b
theorem Fr.refl {σ:St} (h:WF σ):Fr σ σ:=⟨Nat.le_refl _,h,fun _ _=>rfl⟩
theorem Fr.trans {σ σ' σ'' : St} (h:Fr σ σ') (h' : Fr σ' σ''):Fr σ σ'':=⟨Nat.le_trans h.le h'.le,h'.wf,fun b hb=>(h'.old b (Nat.lt_of_lt_of_le hb h.le)).trans (h.old b hb)⟩
theorem WF.lt {σ:St} (h:WF σ) {b:Nat} {k:Bk} (hb:σ.h b=some k):b<σ.ah:=by
 refine Nat.lt_of_not_le fun e=>?_
 rw [h b e] at hb;cases hb
theorem WF.iK {σ:St} (h:WF σ) {b o n:Nat} {g:Bool} {v:V} (hb:ld σ.h b o n g=some v):b<σ.ah:=by
 unfold ld at hb
 split at hb
 ·next k hk=>exact h.lt hk
 ·cases hb
theorem Fr.ld {σ σ' : St} (h:WF σ) (hf:Fr σ σ') {b o n:Nat} {g:Bool} {v:V} (hb:Xe.ld σ.h b o n g=some v):Xe.ld σ'.h b o n g=some v:=by
 have hlt:=h.iK hb
 unfold Xe.ld at hb ⊢
 rw [hf.old b hlt];exact hb
theorem Fr.get {σ σ' : St} (h:WF σ) (hf:Fr σ σ') {b:Nat} {k:Bk} (hb:σ.h b=some k):σ'.h b=some k:=by rw [hf.old b (h.lt hb)];exact hb
theorem Fr.new {σ σ' : St} (hf:Fr σ σ') (k:Bk):Fr σ ⟨hset σ'.h σ'.ah k,σ'.ah+1⟩ :=
 ⟨Nat.le_succ_of_le hf.le,fun b hb=>by
  have hb:σ'.ah+1≤b:=hb
  show hset σ'.h σ'.ah k b=none
  rw [ak _ _ _ _ (by omega)];exact hf.wf b (by omega),fun b hb=>by
  show hset σ'.h σ'.ah k b=_
  have:=hf.le
  rw [ak _ _ _ _ (by omega)];exact hf.old b hb⟩
theorem Fr.set {σ σ' : St} (hf:Fr σ σ') {b:Nat} (hb:σ.ah≤b) (hb2:b<σ'.ah) (k:Bk):Fr σ ⟨hset σ'.h b k,σ'.ah⟩ :=
 ⟨hf.le,fun j hj=>by
  have hj:σ'.ah≤j:=hj
  show hset σ'.h b k j=none
  rw [ak _ _ _ _ (by omega)];exact hf.wf j hj,fun j hj=>by
  show hset σ'.h b k j=_
  rw [ak _ _ _ _ (by omega)];exact hf.old j hj⟩
noncomputable def HL (h:Tr Bk) (e:Nat) (v:B) (n:Nat) (G:Nat→List B):Prop :=
 (n=0∧v = .aW)∨∃ b o c,v = .sl b o n c∧∀ i,i<n→ld h b (o+i*e) e true=some (.agg (G i))
def HC (h:Tr Bk) (v:B) (n:Nat) (G:Nat→B):Prop :=
 (n=0∧v = .aW)∨∃ b o c,v = .sl b o n c∧∀ i,i<n→ld h b (o+i*1) 1 false=some (.c (G i))
def lenV:V→Option V
 | .c (.sl _ _ n _)=>some (.c (.int .i64 (.ofNat n)))
 | .c .aW=>some (.c (.int .i64 (.ofNat 0)))
 | _=>none
theorem afb (b o n:Nat) (c:Cap):lenV (.c (.sl b o n c))=some (.c (.int .i64 (.ofNat n))):=rfl
theorem YL:lenV (.c .aW)=some (.c (.int .i64 (.ofNat 0))):=rfl
theorem HL.len {h:Tr Bk} {e:Nat} {v:B} {n:Nat} {G:Nat→List B} (hl:HL h e v n G):lenV (.c v)=some (.c (.int .i64 (.ofNat n))):=by
 rcases hl with ⟨rfl,rfl⟩|⟨b,o,c,rfl,-⟩ <;> rfl
theorem HC.len {h:Tr Bk} {v:B} {n:Nat} {G:Nat→B} (hl:HC h v n G):lenV (.c v)=some (.c (.int .i64 (.ofNat n))):=by
 rcases hl with ⟨rfl,rfl⟩|⟨b,o,c,rfl,-⟩ <;> rfl
theorem HL.pos {h:Tr Bk} {e:Nat} {v:B} {n:Nat} {G:Nat→List B} (hl:HL h e v n G) (hn:0<n) : ∃ b o c,v = .sl b o n c∧∀ i,i<n→ld h b (o+i*e) e true=some (.agg (G i)):=by
 rcases hl with ⟨rfl,-⟩|h
 ·omega
 ·exact h
theorem HC.pos {h:Tr Bk} {v:B} {n:Nat} {G:Nat→B} (hl:HC h v n G) (hn:0<n) : ∃ b o c,v = .sl b o n c∧∀ i,i<n→ld h b (o+i*1) 1 false=some (.c (G i)):=by
 rcases hl with ⟨rfl,-⟩|h
 ·omega
 ·exact h
theorem HL.fr {σ σ' : St} (hW:WF σ) (hf:Fr σ σ') {e:Nat} {v:B} {n:Nat} {G:Nat→List B} (hl:HL σ.h e v n G):HL σ'.h e v n G:=by
 rcases hl with h|⟨b,o,c,rfl,h⟩
 ·exact .inl h
 ·exact .inr ⟨b,o,c,rfl,fun i hi=>hf.ld hW (h i hi)⟩
theorem HC.fr {σ σ' : St} (hW:WF σ) (hf:Fr σ σ') {v:B} {n:Nat} {G:Nat→B} (hl:HC σ.h v n G):HC σ'.h v n G:=by
 rcases hl with h|⟨b,o,c,rfl,h⟩
 ·exact .inl h
 ·exact .inr ⟨b,o,c,rfl,fun i hi=>hf.ld hW (h i hi)⟩
/-! ### All of it, as one list of rules -/
section
variable (E:Env)
theorem YM (tm:Tr V) (σ:St) (Q:Tr V→St→Prop):wpOps E [] tm σ Q=Q tm σ:=rfl
theorem wpOps_cons (o:AO) (r:List AO) (tm:Tr V) (σ:St) (Q:Tr V→St→Prop):wpOps E (o::r) tm σ Q=wpG E o tm σ fun v σ'=>wpOps E r (yM tm o.dst v) σ' Q:=rfl
variable (tm:Tr V) (σ:St) (K:V→St→Prop)
def Ey (o:Option V) (K:V→Prop):Prop:=match o with|some v=>K v|none=>False
theorem abn (v:V) (K:V→Prop):Ey (some v) K=K v:=rfl
theorem iR {op:oI} (h:op.kind = .q) (h2 : ∀ g l,op≠.call g l):wpOp E op tm σ K=Ey (cO op tm σ) fun v=>K v σ:=by
 unfold wpOp
 split
 ·next g l=>exact absurd rfl (h2 g l)
 ·unfold kK Ey
  rw [h]
  dsimp only
  cases cO op tm σ <;> rfl
theorem aiK (c a b:O):wpOp E (.pick c a b) tm σ K=Ey (match c.ev tm with|.c (.bool t)=>some (bif t then a.ev tm else b.ev tm)|_=>none) fun v=>K v σ:=iR _ _ _ _ rfl fun _ _ h=>by cases h
theorem o_load (n:Nat) (g:Bool) (x:O):wpOp E (.load n g x) tm σ K=Ey (match x.ev tm with|.c (.ptr b o)=>ld σ.h b o n g|_=>none) fun v=>K v σ:=iR _ _ _ _ rfl fun _ _ h=>by cases h
theorem afc (off:Nat) (x:O):wpOp E (.wU off x) tm σ K=Ey (match x.ev tm with|.c (.ptr b o)=>some (.c (.ptr b (o+off)))|_=>none) fun v=>K v σ:=by
 rw [iR _ _ _ _ (by rfl) fun _ _ h=>by cases h]
 unfold cO TG
 simp only [iJ]
 rfl
def iaV (e:Nat) (v:V) (i:V):Option V:=match v,AB i with|.c (.sl b o n _),some j=>(bif Nat.blt j n then some (.c (.ptr b (o+j*e))) else none)|_,_=>none
theorem afd (e:Nat) (x i:O):wpOp E (.yX e x i) tm σ K=Ey (iaV e (x.ev tm) (i.ev tm)) fun v=>K v σ:=by
 rw [iR _ _ _ _ (by rfl) fun _ _ h=>by cases h]
 unfold cO TJ iaV
 simp only [iJ]
 rfl
theorem aiL (e b o n j:Nat) (c:Cap) (h:j<n):iaV e (.c (.sl b o n c)) (.c (.int .i64 (.ofNat j)))=some (.c (.ptr b (o+j*e))):=by
 unfold iaV AB
 simp only [Ea h,cond_true]
theorem ama (i:Nat) (x:O):wpOp E (.ext i x) tm σ K=Ey (aaS i x tm) fun v=>K v σ:=iR _ _ _ _ rfl fun _ _ h=>by cases h
def abo:Nat→V→Option V
 | 0,.bZ a _=>some a
 | 1,.bZ _ (.bZ a _)=>some a
 | 2,.bZ _ (.bZ _ (.bZ a _))=>some a
 | _,_=>none
theorem aiM (i:Nat) (x:O) (tm:Tr V):aaS i x tm=abo i (x.ev tm):=by
 unfold aaS abo
 generalize x.ev tm=v
 rcases v with _|_|_|_|_|⟨a,r⟩|_ <;> rcases i with _|_|_|i <;> (try rfl) <;> rcases r with _|_|_|_|_|⟨a2,r2⟩|_ <;> (try rfl) <;> rcases r2 with _|_|_|_|_|⟨a3,r3⟩|_ <;> rfl
theorem aiN (a r:V):abo 0 (.bZ a r)=some a:=rfl
theorem aiO (a b r:V):abo 1 (.bZ a (.bZ b r))=some b:=rfl
theorem aiP (a b c r:V):abo 2 (.bZ a (.bZ b (.bZ c r)))=some c:=rfl
theorem amb (b:BinOp) (x y:O):wpOp E (.bin b x y) tm σ K=Ey (nX b (x.ev tm) (y.ev tm)) fun v=>K v σ:=iR _ _ _ _ rfl fun _ _ h=>by cases h
theorem amc (a b:Int):nX .lss (.c (.int .i64 a)) (.c (.int .i64 b))=some (.c (.bool (decide (a<b)))):=rfl
theorem amd (a b:Int):nX .gtr (.c (.int .i64 a)) (.c (.int .i64 b))=some (.c (.bool (decide (b<a)))):=rfl
theorem ame (a b:Int):nX .leq (.c (.int .i64 a)) (.c (.int .i64 b))=some (.c (.bool (decide (a≤b)))):=rfl
theorem amf (a b:Int):nX .geq (.c (.int .i64 a)) (.c (.int .i64 b))=some (.c (.bool (decide (b≤a)))):=rfl
theorem amg (a b:Int):nX .eql (.c (.int .i64 a)) (.c (.int .i64 b))=some (.c (.bool (decide (a=b)))):=rfl
theorem amh (a b:Int):nX .neq (.c (.int .i64 a)) (.c (.int .i64 b))=some (.c (.bool (!decide (a=b)))):=rfl
theorem aiQ (a b:ByteArray):nX .eql (.c (.str a)) (.c (.str b))=some (.c (.bool (decide (a=b)))):=rfl
theorem aiR (a b:ByteArray):nX .neq (.c (.str a)) (.c (.str b))=some (.c (.bool (!decide (a=b)))):=rfl
theorem ami (a b:Nat) (h:a+b≤9223372036854775807):nX .add (.c (.int .i64 (.ofNat a))) (.c (.int .i64 (.ofNat b)))=some (.c (.int .i64 (.ofNat (a+b)))):=by
 show mkI .i64 (Int.ofNat a+Int.ofNat b)=_
 rw [add_ofNat,Nv h]
theorem amj (a b:Nat) (h:a≤9223372036854775807) (h2:b≤a):nX .sub (.c (.int .i64 (.ofNat a))) (.c (.int .i64 (.ofNat b)))=some (.c (.int .i64 (.ofNat (a - b)))):=by
 show mkI .i64 (Int.ofNat a - Int.ofNat b)=_
 rw [show Int.ofNat a - Int.ofNat b=Int.ofNat (a - b) by simp only [Int.ofNat_eq_natCast];omega,Nv (by omega)]
theorem aiS (a b c d:Int):eqL [.int .i64 a,.int .i64 b] [.int .i64 c,.int .i64 d]=some (decide (a=c) && decide (b=d)):=rfl
def amk (k:Nat) (p:Bool) (v:V):Option V:=match k,v with
 | 0,.c (.sl ..)=>some (.c (.bool (!p)))
 | 0,.c .aW=>some (.c (.bool p))
 | 1,.c (.ptr ..)=>some (.c (.bool (!p)))
 | 1,.c .MS=>some (.c (.bool p))
 | 2,.fn ..=>some (.c (.bool (!p)))
 | 2,.GU=>some (.c (.bool p))
 | _,_=>none
theorem aml (k:Nat) (p:Bool) (x:O):wpOp E (.nil k p x) tm σ K=Ey (amk k p (x.ev tm)) fun v=>K v σ:=iR _ _ _ _ rfl fun _ _ h=>by cases h
theorem amm (x:O):wpOp E (.not x) tm σ K=Ey (match x.ev tm with|.c (.bool b)=>some (.c (.bool !b))|_=>none) fun v=>K v σ:=iR _ _ _ _ rfl fun _ _ h=>by cases h
theorem afe (z:List B) (ps:List (Nat×Nat×O)):wpOp E (.build z ps) tm σ K=Ey (match rW z (ps.map fun p=>(p.1,p.2.1,p.2.2.ev tm)) with|some l=>some (.agg l)|none=>none) fun v=>K v σ:=iR _ _ _ _ rfl fun _ _ h=>by cases h
theorem amn (x:O):wpOp E (.len x) tm σ K=Ey (lenV (x.ev tm)) fun v=>K v σ:=iR _ _ _ _ rfl fun _ _ h=>by cases h
theorem aiT (x:O):wpOp E (.Jv x) tm σ K=Ey (match x.ev tm with|.c (.ptr b o)=>some (.c (.ptr b o))|.fn f l=>some (.fn f l)|_=>none) fun v=>K v σ:=iR _ _ _ _ rfl fun _ _ h=>by cases h
theorem aff (z:List B):wpOp E (.alloc z) tm σ K=K (.c (.ptr σ.ah 0)) ⟨hset σ.h σ.ah ⟨z,none⟩,σ.ah+1⟩:=by
 unfold wpOp kK
 simp only [oI.kind,jG,jH]
theorem amo (x:O):wpOp E (.box x) tm σ K=match (x.ev tm).cells with|some l=>K (.c (.ptr σ.ah 0)) ⟨hset σ.h σ.ah ⟨l,none⟩,σ.ah+1⟩|none=>False:=by
 unfold wpOp kK
 simp only [oI.kind,jG,jH]
 cases (x.ev tm).cells <;> rfl
theorem aiU (bytes:Nat) (z:List B) (l c:O):wpOp E (.Et bytes z l c) tm σ K=match AB (l.ev tm),AB (c.ev tm) with
  | some n,some m=>(bif Nat.ble n m && (Nat.ble (bytes*m) 281474976710656 && Nat.ble m 1073741824) then K (.c (.sl σ.ah 0 n (.ex m))) ⟨hset σ.h σ.ah ⟨rep z m,none⟩,σ.ah+1⟩ else False)
  | _,_=>False:=by
 unfold wpOp kK
 simp only [oI.kind,jG,jH]
 generalize AB (l.ev tm)=A
 generalize AB (c.ev tm)=C
 cases A with
 | none=>rfl
 | some n =>
  cases C with
  | none=>rfl
  | some m =>
   dsimp only
   cases (Nat.ble n m && (Nat.ble (bytes*m) 281474976710656 && Nat.ble m 1073741824)) <;> rfl
theorem amq (e n:Nat) (z:List B) (ps:List (Nat×Nat×O)) (h:n*e≤16777216) (h' : n≤16777216):wpOp E (.bsl e n z ps) tm σ K=match rW (rep z n) (ps.map fun p=>(p.1,p.2.1,p.2.2.ev tm)) with
  | some l=>K (.c (.sl σ.ah 0 n (.ex n))) ⟨hset σ.h σ.ah ⟨l,none⟩,σ.ah+1⟩|none=>False:=by
 unfold wpOp kK
 simp only [oI.kind,jG,jH,jQ h,jQ h',Bool.and_self,cond_true]
 cases rW (rep z n) (ps.map fun p=>(p.1,p.2.1,p.2.2.ev tm)) <;> rfl
theorem afg (n:Nat) (a x:O):wpOp E (.store n a x) tm σ K=match a.ev tm,(x.ev tm).cells with
  | .c (.ptr b o),some vs=>(bif Nat.beq vs.length n then (match sto σ.h b o vs with|some h=>K .und ⟨h,σ.ah⟩|none=>False) else False)
  | _,_=>False:=by
 unfold wpOp kK
 simp only [oI.kind,YK]
 generalize a.ev tm=A
 generalize (x.ev tm).cells=C
 cases C with
 | none=>rcases A with ⟨_|_|_|_|_|_|_|_|_|_⟩|_|_|_|_|_|_ <;> rfl
 | some vs =>
  rcases A with ⟨_|_|_|_|⟨b,o⟩|_|_|_|_|_⟩|_|_|_|_|_|_ <;> try rfl
  dsimp only
  cases Nat.beq vs.length n with
  | false=>rfl
  | true =>
   simp only [cond_true]
   cases sto σ.h b o vs <;> rfl
theorem aiV (g:O) (args:List O):wpOp E (.call g args) tm σ K=match g.ev tm with|.fn f caps=>aT E f (args.map (·.ev tm) ++ caps.map .c) σ K|_=>False:=rfl
end
end Go.Proofs.Xe
