/- Layer 19's examples: a solution, run by the kernel. -/
import Derived.Test.YtjonjhcaniinaaaGreatDoorZ25
set_option linter.all false
set_option maxHeartbeats 8000000
namespace Go.Proofs.Xe
open Go.RowKit Go.Proofs.Ins
def fB {α:Sort _} (b:Bool) (f:Bool→α):α:=match b with|true=>f true|false=>f false
theorem aq8 {α:Sort _} (b:Bool) (f:Bool→α):fB b f=f b:=by cases b <;> rfl
def dD (d:Nat):Nat:=bif Nat.beq d 0 then 1 else d
def sm (n:Nat):Bool:=Nat.ble (Nat.log2 n) 1990
def BK (n:Bool) (s d:Nat):Bool :=
 sm s && (sm d && (bif Nat.beq s 0 then !n && Nat.beq d 0 else Nat.beq d 0 || (!Nat.beq d 1 && Nat.beq (Nat.gcd s d) 1)))
theorem Nh {n k:Nat} (h:Nat.log2 n+1≤8*k):n<256 ^ k:=by
 have h2:n<2 ^ (Nat.log2 n+1):=Nat.lt_log2_self
 have h3:2 ^ (Nat.log2 n+1)≤2 ^ (8*k):=Nat.pow_le_pow_right jb h
 have h4:(2:Nat) ^ (8*k)=256 ^ k:=Nat.pow_mul 2 8 k
 exact Nat.lt_of_lt_of_le h2 (Nat.le_trans h3 (Nat.le_of_eq h4))
theorem agE {n:Nat} (h:sm n=true):n<256 ^ 250:=by
 have h1:Nat.log2 n≤1990:=Nat.le_of_ble_eq_true h
 exact Nh jb
theorem vC {n:Nat} (h:sm n=true):(bn n).size≤250:=jP (agE h)
theorem zN {a b:Nat} : Nat.beq a b=true↔a=b:=⟨Nat.eq_of_beq_eq_true,fun h=>by subst h;simp⟩
theorem BL (d:Nat):0<dD d:=by
 unfold dD
 rw [kW]
 split <;> omega
theorem qK {n:Bool} {s d:Nat} (h:BK n s d=true):Vl n (bn s) (bn d)∧(bn s).size≤250∧(bn d).size≤250∧(s=0→n=false):=by
 unfold BK at h
 simp only [Bool.and_eq_true] at h
 obtain ⟨h1,h2,h3⟩:=h
 rw [kW] at h3
 refine ⟨⟨by rw [bK],by rw [bK],fun h0=>?_,?_⟩,vC h1,vC h2,fun h0=>?_⟩
 ·rw [bK] at h0
  rw [if_pos h0] at h3
  simp only [Bool.and_eq_true,Bool.not_eq_true'] at h3
  exact ⟨h3.1,by rw [bK];exact zN.mp h3.2⟩
 ·rw [bK,bK]
  split at h3
  ·simp only [Bool.and_eq_true] at h3
   exact .inl (zN.mp h3.2)
  ·simp only [Bool.or_eq_true,Bool.and_eq_true,Bool.not_eq_true'] at h3
   rcases h3 with h3|⟨h3,h4⟩
   ·exact .inl (zN.mp h3)
   ·exact .inr ⟨fun e=>(by rw [zN.mpr e] at h3;cases h3),zN.mp h4⟩
 ·rw [if_pos h0] at h3
  simp only [Bool.and_eq_true,Bool.not_eq_true'] at h3
  exact h3.1
theorem yh {n:Bool} {s d:Nat} (h:BK n s d=true):rn (rq n (bn s) (bn d))=n∧nm (rq n (bn s) (bn d))=s∧(rq n (bn s) (bn d)).den=dD d∧rs (rq n (bn s) (bn d))=bn s∧rd (rq n (bn s) (bn d))=bn d:=by
 obtain ⟨hv,-⟩:=qK h
 obtain ⟨e1,e2⟩:=Ce hv
 obtain ⟨f1,f2,f3⟩:=IU hv
 refine ⟨f1,?_,?_,f2,f3⟩
 ·unfold nm;rw [e1,mO,bK]
 ·rw [e2];unfold dn dD;rw [bK,kW]
theorem aob {n:Bool} {s d:Nat} (h:BK n s d=true):rv (rq n (bn s) (bn d)) = .agg #[.bool n,.string (bn s),.string (bn d)]:=ac2 (qK h).1
def zeroV:V:=.agg [.bool false,.nat 0,.nat 0]
def enc (n:Bool) (x y:Nat):V :=
 bif Nat.beq x 0 then zeroV else fB n fun n=>fN (Nat.gcd x y) fun g=>fN (x/g) fun p=>fN (y/g) fun q=>bif Nat.beq q 1 then .agg [.bool n,.nat p,.nat 0] else .agg [.bool n,.nat p,.nat q]
theorem Rl (φ:Ph):RV φ zeroV (rv 0):=⟨_,rfl,rfl,rfl,rfl,trivial⟩
theorem zO {n:Bool} {x y:Nat} (hy:0<y) (φ:Ph):RV φ (enc n x y) (rv (Ins.fr n x y)):=by
 unfold enc
 rw [kW]
 by_cases hx:x=0
 ·rw [if_pos hx,hx,OI];exact Rl φ
 ·rw [if_neg hx,aq8,iY,iY,iY,kW,SG jb hy]
  split
  ·exact ⟨_,rfl,rfl,rfl,rfl,trivial⟩
  ·exact ⟨_,rfl,rfl,rfl,rfl,trivial⟩
def ajN (n1:Bool) (s1 d1:Nat) (n2:Bool) (s2 d2:Nat):V :=
 fN (s1*dD d2) fun X=>fN (s2*dD d1) fun Y=>fN (dD d1*dD d2) fun Z =>
  bif n1 == n2 then enc n1 (X+Y) Z else bif Nat.ble Y X then enc n1 (X - Y) Z else enc n2 (Y - X) Z
theorem Z5 {n1 n2:Bool} {s1 d1 s2 d2:Nat} (h1:BK n1 s1 d1=true) (h2:BK n2 s2 d2=true) (φ:Ph):RV φ (ajN n1 s1 d1 n2 s2 d2) (rv (rq n1 (bn s1) (bn d1)+rq n2 (bn s2) (bn d2))):=by
 obtain ⟨a1,a2,a3,-⟩:=yh h1
 obtain ⟨b1,b2,b3,-⟩:=yh h2
 have hZ:0<dD d1*dD d2:=Nat.mul_pos (BL _) (BL _)
 rw [VE,a1,a2,a3,b1,b2,b3]
 unfold ajN
 rw [iY,iY,iY]
 by_cases hn:n1=n2
 ·subst hn
  rw [CG]
  simp only [beq_self_eq_true,cond_true]
  exact zO hZ φ
 ·rw [show (n1 == n2)=false from by simpa using hn,cond_false]
  cases hb:Nat.ble (s2*dD d1) (s1*dD d2) with
  | true =>
   rw [rH hn (Nat.le_of_ble_eq_true hb),cond_true]
   exact zO hZ φ
  | false =>
   have hlt : ¬ s2*dD d1≤s1*dD d2:=fun h=>by rw [Nat.ble_eq_true_of_le h] at hb;cases hb
   rw [Int.add_comm,rH (fun e=>hn e.symm) jb,cond_false]
   exact zO hZ φ
def aoc (n1:Bool) (s1 d1:Nat) (n2:Bool) (s2 d2:Nat):V:=fN (s1*s2) fun X=>fN (dD d1*dD d2) fun Z=>enc (n1 != n2) X Z
theorem ajO {n1 n2:Bool} {s1 d1 s2 d2:Nat} (h1:BK n1 s1 d1=true) (h2:BK n2 s2 d2=true) (φ:Ph):RV φ (aoc n1 s1 d1 n2 s2 d2) (rv (rq n1 (bn s1) (bn d1)*rq n2 (bn s2) (bn d2))):=by
 obtain ⟨a1,a2,a3,-⟩:=yh h1
 obtain ⟨b1,b2,b3,-⟩:=yh h2
 rw [OL,a1,a2,a3,b1,b2,b3]
 unfold aoc
 rw [iY,iY]
 exact zO (Nat.mul_pos (BL _) (BL _)) φ
def Vg (x:V) (b:Bool):V:=.cZ x (.cZ (.c (.bool b)) .tnil)
theorem Ea {φ:Ph} {x:V} {q:Rat} {b:Bool} (h:RV φ x (rv q)):RV φ (Vg x b) (Ru q b):=⟨rv q,[.bool b],rfl,h,.bool b,[],rfl,rfl,rfl⟩
def aod (n1:Bool) (s1 d1:Nat) (n2:Bool) (s2 d2:Nat):V :=
 bif Nat.beq s2 0 then Vg zeroV false else fN (s1*dD d2) fun X=>fN (dD d1*s2) fun Z=>Vg (enc (n1 != n2) X Z) true
theorem ajP {n1 n2:Bool} {s1 d1 s2 d2:Nat} (h1:BK n1 s1 d1=true) (h2:BK n2 s2 d2=true) (φ:Ph):RV φ (aod n1 s1 d1 n2 s2 d2) (Ru (xB (rq n1 (bn s1) (bn d1)) (rq n2 (bn s2) (bn d2))) (okR (rq n2 (bn s2) (bn d2)))):=by
 obtain ⟨a1,a2,a3,-⟩:=yh h1
 obtain ⟨b1,b2,b3,-⟩:=yh h2
 unfold aod xB okR
 rw [kW]
 by_cases h0:s2=0
 ·have hq:rq n2 (bn s2) (bn d2)=0:=nO.mp (by rw [b2];exact h0)
  rw [if_pos h0,hq,if_pos rfl]
  exact Ea (Rl φ)
 ·have hq : ¬ rq n2 (bn s2) (bn d2)=0:=fun e=>h0 (by rw [← b2];exact nO.mpr e)
  rw [if_neg h0,if_neg hq,OM hq,a1,a2,a3,b1,b2,b3,iY,iY,show (!decide (rq n2 (bn s2) (bn d2)=0))=true by simp [hq]]
  exact Ea (zO (Nat.mul_pos (BL _) jb) φ)
def Vh (x y:Nat):Int:=bif Nat.blt x y then .negSucc 0 else bif Nat.beq x y then .ofNat 0 else .ofNat 1
def ach (n1:Bool) (s1 d1:Nat) (n2:Bool) (s2 d2:Nat):Int :=
 match n1,n2 with
 | true,false=>.negSucc 0
 | false,true=>.ofNat 1
 | false,false=>Vh (s1*dD d2) (s2*dD d1)
 | true,true=>Vh (s2*dD d1) (s1*dD d2)
theorem Z7 {x y:Nat} (h:x<y):Vh x y = -1:=by
 unfold Vh
 rw [show Nat.blt x y=true from Nat.ble_eq_true_of_le h];rfl
theorem Ir {x y:Nat} (h : ¬ x<y):Vh x y=if x=y then 0 else 1:=by
 unfold Vh
 rw [show Nat.blt x y=false from by
  cases hb:Nat.blt x y with
  | true=>exact absurd (Nat.le_of_ble_eq_true hb) h
  | false=>rfl,cond_false,kW]
 split <;> rfl
theorem Rn {n1 n2:Bool} {s1 d1 s2 d2:Nat} (h1:BK n1 s1 d1=true) (h2:BK n2 s2 d2=true):lY (rq n1 (bn s1) (bn d1)) (rq n2 (bn s2) (bn d2))=ach n1 s1 d1 n2 s2 d2:=by
 obtain ⟨a1,a2,a3,-⟩:=yh h1
 obtain ⟨b1,b2,b3,-⟩:=yh h2
 obtain ⟨va,-,-,za⟩:=qK h1
 obtain ⟨vb,-,-,zb⟩:=qK h2
 have na:=(Ce va).1
 have nb:=(Ce vb).1
 rw [bK] at na nb
 generalize hp:rq n1 (bn s1) (bn d1)=p at *
 generalize hq:rq n2 (bn s2) (bn d2)=q at *
 have l1:=Rat.lt_iff p q
 have l2:=Rat.lt_iff q p
 rw [na,nb,a3,b3] at l1 l2
 have p1:=BL d1
 have p2:=BL d2
 have tri : ∀ c:Int,(p<q→c = -1)→(q<p→c=1)→(p=q→c=0)→lY p q=c:=fun c t1 t2 t3=>by
  by_cases h1:p<q
  ·rw [wX h1,t1 h1]
  ·by_cases h2:q<p
   ·rw [wY h2,t2 h2]
   ·have h3:p=q:=Rat.le_antisymm (Rat.not_lt.mp h2) (Rat.not_lt.mp h1)
    rw [t3 h3,h3,wZ]
 have eqc:p=q→s1*dD d2=s2*dD d1:=fun e=>by rw [← a2,← b2,← a3,← b3,e]
 have x1:((s1*dD d2:Nat):Int)=(s1:Int)*(dD d2:Int):=by simp
 have x2:((s2*dD d1:Nat):Int)=(s2:Int)*(dD d1:Int):=by simp
 cases n1 <;> cases n2
 ·simp only [oM,Bool.false_eq_true,if_false] at l1 l2
  rw [← x1,← x2] at l1
  rw [← x1,← x2] at l2
  show lY p q=Vh (s1*dD d2) (s2*dD d1)
  refine tri _ (fun h=>Z7 (by have:=l1.mp h;omega)) (fun h=>?_) (fun h=>?_)
  ·have:=l2.mp h
   rw [Ir jb,if_neg jb]
  ·have:=eqc h
   rw [Ir jb,if_pos this]
 ·have hs:s2≠0:=fun e=>by have:=zb e;cases this
  have hlt:q<p:=l2.mpr (by
   simp only [oM,if_true,Bool.false_eq_true,if_false]
   have:0<(s2:Int)*(dD d1:Int):=Int.mul_pos jb jb
   have h5:0≤(s1:Int)*(dD d2:Int):=Int.mul_nonneg jb jb
   rw [Int.neg_mul]
   omega)
  rw [wY hlt];rfl
 ·have hs:s1≠0:=fun e=>by have:=za e;cases this
  have hlt:p<q:=l1.mpr (by
   simp only [oM,if_true,Bool.false_eq_true,if_false]
   have:0<(s1:Int)*(dD d2:Int):=Int.mul_pos jb jb
   have h5:0≤(s2:Int)*(dD d1:Int):=Int.mul_nonneg jb jb
   rw [Int.neg_mul]
   omega)
  rw [wX hlt];rfl
 ·simp only [oM,if_true,Int.neg_mul] at l1 l2
  rw [← x1,← x2] at l1
  rw [← x1,← x2] at l2
  show lY p q=Vh (s2*dD d1) (s1*dD d2)
  refine tri _ (fun h=>Z7 (by have:=l1.mp h;omega)) (fun h=>?_) (fun h=>?_)
  ·have:=l2.mp h
   rw [Ir jb,if_neg jb]
  ·have:=eqc h
   rw [Ir jb,if_pos this.symm]
def agF (n:Bool) (s:Nat):Int:=bif Nat.beq s 0 then .ofNat 0 else bif n then .negSucc 0 else .ofNat 1
theorem agG {n:Bool} {s d:Nat} (h:BK n s d=true):sg (rq n (bn s) (bn d))=agF n s:=by
 obtain ⟨a1,a2,-⟩:=yh h
 unfold agF
 rw [kW]
 by_cases h0:s=0
 ·rw [if_pos h0,Yi (by rw [a2];exact h0)];rfl
 ·rw [if_neg h0]
  cases n with
  | true=>rw [acH a1];rfl
  | false=>rw [acI a1 (by rw [a2];exact h0)];rfl
def aq9 (i:Int):V:=match i with|.ofNat m=>enc false m 1|.negSucc m=>enc true (m+1) 1
theorem Z8 (i:Int) (φ:Ph):RV φ (aq9 i) (rv (i:Rat)):=by
 rw [← ac3 i]
 cases i with
 | ofNat m=>exact zO (n:=false) (x:=m) (y:=1) (Nat.le_refl 1) φ
 | negSucc m =>
  rw [show decide (Int.negSucc m<0)=true from decide_eq_true (Int.negSucc_lt_zero m)]
  exact zO (n:=true) (x:=m+1) (y:=1) (Nat.le_refl 1) φ
def Vj (f:Bool→Nat→Nat→V):List V→Option V
 | [.agg [.bool n,x,y]]=>(match x.num,y.num with|some s,some d=>bif BK n s d then some (f n s d) else none|_,_=>none)
 | _=>none
def Eb (f:Bool→Nat→Nat→Bool→Nat→Nat→V):List V→Option V
 | [.agg [.bool n1,x1,y1],.agg [.bool n2,x2,y2]]=>(match x1.num,y1.num with
  | some s1,some d1=>(match x2.num,y2.num with|some s2,some d2=>bif BK n1 s1 d1 && BK n2 s2 d2 then some (f n1 s1 d1 n2 s2 d2) else none|_,_=>none)
  | _,_=>none)
 | _=>none
def Oy (f:Nat→Nat→V):List V→Option V
 | [.c x,.c y]=>(match x.num,y.num with|some a,some b=>bif sm a && sm b then some (f a b) else none|_,_=>none)
 | _=>none
def Oz (n:Bool) (s d:Nat):V:=.agg [.bool n,.nat s,.nat d]
def iVk (i:Int):V:=match i with|.ofNat 0=>.c (.int .i64 (.ofNat 0))|.ofNat (n+1)=>.c (.int .i64 (.ofNat (n+1)))|.negSucc n=>.c (.int .i64 (.negSucc n))
def ajQ:List V→Option V
 | [.c (.int .i64 i)]=>bif LP .i64 i then some (aq9 i) else none
 | _=>none
def akM:List V→Option V
 | [.c (.bool n),.c x,.c y]=>(match x.num,y.num with|some a,some b=>bif sm a && sm b then some (bif Nat.beq b 0 then Vg zeroV false else Vg (enc n a b) true) else none|_,_=>none)
 | _=>none
def akN:List V→Option V
 | [.c (.int .u64 (.ofNat u))]=>bif Nat.blt u 18446744073709551616 then some (.c (.nat u)) else none
 | _=>none
def aoe (a b:Nat):V:=bif Nat.blt a b then .cZ (.c (.nat 0)) (.cZ (.c (.bool false)) .tnil) else fN (a - b) fun m=>.cZ (.c (.nat m)) (.cZ (.c (.bool true)) .tnil)
def akO:List V→Option V
 | [.c x,.c y]=>(match x.num,y.num with|some a,some b=>bif sm a && (sm b && !Nat.beq b 0) then some (fN (a/b) fun q=>fN (a%b) fun r=>.cZ (.c (.nat q)) (.cZ (.c (.nat r)) (.cZ (.c (.bool true)) .tnil))) else none|_,_=>none)
 | _=>none
def agH (n:Nat):V:=fN n fun n=>.c (.nat n)
def ctr (f:Nat) (args:List V):Option V :=
 if f=17 then Eb ajN args
 else if f=11 then Eb (fun a b c d e f=>iVk (ach a b c d e f)) args
 else if f=22 then Eb aoc args
 else if f=108 then Eb aod args
 else if f=12 then Vj (fun n s _=>iVk (agF n s)) args
 else if f=128 then Eb (fun a b c d e f=>bif decide (ach a b c d e f≤0) then Oz a b c else Oz d e f) args
 else if f=58 then Eb (fun a b c d e f=>bif decide (0≤ach a b c d e f) then Oz a b c else Oz d e f) args
 else if f=34 then Vj Oz args
 else if f=41 then Eb ajN args
 else if f=71 then Vj (fun _ _ _=>.c (.bool true)) args
 else if f=23 then ajQ args
 else if f=141 then akM args
 else if f=88 then akN args
 else if f=77 then Oy (fun a b=>agH (a+b)) args
 else if f=78 then Oy aoe args
 else if f=37 then Oy (fun a b=>agH (a*b)) args
 else if f=86 then Oy (fun a b=>agH (Nat.gcd a b)) args
 else if f=87 then akO args
 else if f=45 then ajQ args
 else none
def ajR (f:Nat) (args:List V) (σ:St):Option (V×St):=match ctr f args with|some v=>some (v,σ)|none=>none
def isT:Option (V×St)→Bool
 | some (.c (.bool true),_)=>true
 | _=>false
variable {φ:Ph} {args:List V} {v:V} {aG:Array Value} {P:Program}
theorem Ct.of {P:Program} {f:Nat} {v:V} {aG:Array Value} {w:World} {cv:Value} (h:Calls P f aG w fun e w'=>e = .returned cv∧Below w.heap.size w w') (hv : ∀ φ',RV φ' v cv):Ct P f v aG w :=
 Calls.mono h fun _ _ he=>⟨cv,he.1,he.2,hv⟩
theorem Ro {n:Bool} {x y:B} {s d:Nat} {cv:Value} (hx:x.num=some s) (hy:y.num=some d) (h:RV φ (.agg [.bool n,x,y]) cv):cv = .agg #[.bool n,.string (bn s),.string (bn d)]:=by
 obtain ⟨r,e,hr⟩:=h
 obtain ⟨l⟩:=r
 match l,hr with
 | [a,b,c],⟨h1,h2,h3,_⟩ =>
  have h1:a = .bool n:=h1
  rw [e,h1,mg hx h2,mg hy h3]
theorem zQ {n:Bool} {s d:Nat} (h:BK n s d=true) (φ:Ph):RV φ (Oz n s d) (rv (rq n (bn s) (bn d))):=by
 rw [aob h]
 exact ⟨_,rfl,rfl,rfl,rfl,trivial⟩
theorem agI (i:Int) (φ:Ph):RV φ (iVk i) (.int .i64 i):=by
 unfold iVk
 split <;> rfl
theorem LK {f:Nat} {g:Bool→Nat→Nat→V} {R:Rat→Value} (hc : ∀ n s d w,(bn s).size≤250→(bn d).size≤250→BK n s d=true→Calls P f #[.agg #[.bool n,.string (bn s),.string (bn d)]] w fun e w'=>e = .returned (R (rq n (bn s) (bn d)))∧Below w.heap.size w w')
  (hg : ∀ n s d,BK n s d=true→∀ φ,RV φ (g n s d) (R (rq n (bn s) (bn d)))) (h:Vj g args=some v) (ha:wE φ args aG.toList) (w:World):Ct P f v aG w:=by
 unfold Vj at h
 split at h
 ·next n x y =>
  split at h
  rotate_left
  ·cases h
  next s d hx hy =>
  cases hb:BK n s d with
  | false=>rw [hb] at h;cases h
  | true =>
   rw [hb] at h
   cases h
   obtain ⟨u,rfl,hu⟩:=nV ha
   rw [Ro hx hy hu]
   obtain ⟨-,h1,h2,-⟩:=qK hb
   exact .of (hc n s d w h1 h2 hb) (hg n s d hb)
 ·cases h
theorem um {f:Nat} {g:Bool→Nat→Nat→Bool→Nat→Nat→V} {R:Rat→Rat→Value}
  (hc : ∀ n1 s1 d1 n2 s2 d2 w,(bn s1).size≤250→(bn d1).size≤250→(bn s2).size≤250→(bn d2).size≤250→BK n1 s1 d1=true→BK n2 s2 d2=true→Calls P f #[.agg #[.bool n1,.string (bn s1),.string (bn d1)],.agg #[.bool n2,.string (bn s2),.string (bn d2)]] w fun e w' =>
   e = .returned (R (rq n1 (bn s1) (bn d1)) (rq n2 (bn s2) (bn d2)))∧Below w.heap.size w w')
  (hg : ∀ n1 s1 d1 n2 s2 d2,BK n1 s1 d1=true→BK n2 s2 d2=true→∀ φ,RV φ (g n1 s1 d1 n2 s2 d2) (R (rq n1 (bn s1) (bn d1)) (rq n2 (bn s2) (bn d2)))) (h:Eb g args=some v) (ha:wE φ args aG.toList) (w:World):Ct P f v aG w:=by
 unfold Eb at h
 split at h
 ·next n1 x1 y1 n2 x2 y2 =>
  split at h
  rotate_left
  ·cases h
  next s1 d1 hx1 hy1 =>
  split at h
  rotate_left
  ·cases h
  next s2 d2 hx2 hy2 =>
  cases hb:(BK n1 s1 d1 && BK n2 s2 d2) with
  | false=>rw [hb] at h;cases h
  | true =>
   rw [hb] at h
   cases h
   rw [Bool.and_eq_true] at hb
   obtain ⟨u,v,rfl,hu,hv⟩:=qy ha
   rw [Ro hx1 hy1 hu,Ro hx2 hy2 hv]
   obtain ⟨-,h1,h2,-⟩:=qK hb.1
   obtain ⟨-,h3,h4,-⟩:=qK hb.2
   exact .of (hc n1 s1 d1 n2 s2 d2 w h1 h2 h3 h4 hb.1 hb.2) (hg n1 s1 d1 n2 s2 d2 hb.1 hb.2)
 ·cases h
theorem Ec {f:Nat} {g:Nat→Nat→V} {R:Nat→Nat→Value} (hc : ∀ a b w,(bn a).size≤250→(bn b).size≤250→Calls P f #[.string (bn a),.string (bn b)] w fun e w'=>e = .returned (R a b)∧Below w.heap.size w w')
  (hg : ∀ a b φ,RV φ (g a b) (R a b)) (h:Oy g args=some v) (ha:wE φ args aG.toList) (w:World):Ct P f v aG w:=by
 unfold Oy at h
 split at h
 ·next x y =>
  split at h
  rotate_left
  ·cases h
  next a b hx hy =>
  cases hb:(sm a && sm b) with
  | false=>rw [hb] at h;cases h
  | true =>
   rw [hb] at h
   cases h
   rw [Bool.and_eq_true] at hb
   obtain ⟨u,v,rfl,hu,hv⟩:=qy ha
   have hu:u = .string (bn a):=mg hx hu
   have hv:v = .string (bn b):=mg hy hv
   rw [hu,hv]
   exact .of (hc a b w (vC hb.1) (vC hb.2)) (hg a b)
 ·cases h
theorem Rq (n:Nat) (φ:Ph):RV φ (agH n) (.string (bn n)):=by
 unfold agH
 rw [iY]
 rfl
theorem ajS (a b:Nat) (φ:Ph):RV φ (aoe a b) (OY a b):=by
 unfold aoe
 cases h:Nat.blt a b with
 | true =>
  rw [He (Nat.le_of_ble_eq_true h)]
  exact ⟨_,[.bool false],rfl,rfl,.bool false,[],rfl,rfl,rfl⟩
 | false =>
  rw [wz (by
   refine Nat.le_of_not_lt fun e=>?_
   rw [show Nat.blt a b=true from Nat.ble_eq_true_of_le e] at h
   cases h),cond_false,iY]
  exact ⟨_,[.bool true],rfl,rfl,.bool true,[],rfl,rfl,rfl⟩
theorem gU {c:Prop} [Decidable c] {x y:Option V} {v:V} (h:(if c then x else y)=some v):(c∧x=some v)∨(¬ c∧y=some v):=by
 by_cases hc:c
 ·rw [if_pos hc] at h;exact .inl ⟨hc,h⟩
 ·rw [if_neg hc] at h;exact .inr ⟨hc,h⟩
theorem agJ {n:Bool} {s d:Nat} (h:BK n s d=true):Sm 250 (rq n (bn s) (bn d)):=by
 obtain ⟨-,f2,f3,-⟩:=yh h
 unfold BK at h
 simp only [Bool.and_eq_true] at h
 refine ⟨by rw [f2];exact agE h.1,?_⟩
 rw [f3]
 unfold dD
 rw [kW]
 split
 ·exact Nat.one_lt_pow jb jb
 ·exact agE h.2.1
set_option maxRecDepth 100000 in
theorem aof (f:Nat) (args:List V) (v:V) (h:ctr f args=some v):okF Tryz.prog f∧∀ (φ:Ph) (aG:Array Value) (w:World),wE φ args aG.toList→Ct Tryz.prog f v aG w:=by
 unfold ctr at h
 replace h:=gU h
 rcases h with ⟨e,h⟩|⟨-,h⟩
 ·subst e
  exact ⟨dS (by kernel_rfl),fun φ aG w ha=>um (R:=fun p q=>rv (p+q)) (fun n1 s1 d1 n2 s2 d2 w h1 h2 h3 h4 _ _=>YO n1 (bn s1) (bn d1) n2 (bn s2) (bn d2) w jb jb) (fun n1 s1 d1 n2 s2 d2 k1 k2 φ=>Z5 k1 k2 φ) h ha w⟩
 replace h:=gU h
 rcases h with ⟨e,h⟩|⟨-,h⟩
 ·subst e
  exact ⟨dS (by kernel_rfl),fun φ aG w ha=>um (R:=fun p q=>.int .i64 (lY p q)) (fun n1 s1 d1 n2 s2 d2 w h1 h2 h3 h4 _ _=>uS n1 (bn s1) (bn d1) n2 (bn s2) (bn d2) w jb jb) (fun n1 s1 d1 n2 s2 d2 k1 k2 φ=>by rw [Rn k1 k2];exact agI _ φ) h ha w⟩
 replace h:=gU h
 rcases h with ⟨e,h⟩|⟨-,h⟩
 ·subst e
  exact ⟨dS (by kernel_rfl),fun φ aG w ha=>um (R:=fun p q=>rv (p*q)) (fun n1 s1 d1 n2 s2 d2 w h1 h2 h3 h4 _ _=>CZ n1 (bn s1) (bn d1) n2 (bn s2) (bn d2) w jb jb) (fun n1 s1 d1 n2 s2 d2 k1 k2 φ=>ajO k1 k2 φ) h ha w⟩
 replace h:=gU h
 rcases h with ⟨e,h⟩|⟨-,h⟩
 ·subst e
  exact ⟨dS (by kernel_rfl),fun φ aG w ha=>um (R:=fun p q=>Ru (xB p q) (okR q)) (fun n1 s1 d1 n2 s2 d2 w h1 h2 h3 h4 _ _=>Ji n1 (bn s1) (bn d1) n2 (bn s2) (bn d2) w jb jb) (fun n1 s1 d1 n2 s2 d2 k1 k2 φ=>ajP k1 k2 φ) h ha w⟩
 replace h:=gU h
 rcases h with ⟨e,h⟩|⟨-,h⟩
 ·subst e
  exact ⟨dS (by kernel_rfl),fun φ aG w ha=>LK (R:=fun p=>.int .i64 (sg p)) (fun n s d w h1 h2 _=>Jh n (bn s) (bn d) w jb jb) (fun n s d k φ=>by rw [agG k];exact agI _ φ) h ha w⟩
 replace h:=gU h
 rcases h with ⟨e,h⟩|⟨-,h⟩
 ·subst e
  refine ⟨dS (by kernel_rfl),fun φ aG w ha=>um (R:=fun p q=>rv (Jj p q)) (fun n1 s1 d1 n2 s2 d2 w h1 h2 h3 h4 _ _=>Yv n1 (bn s1) (bn d1) n2 (bn s2) (bn d2) w jb jb) (fun n1 s1 d1 n2 s2 d2 k1 k2 φ=>?_) h ha w⟩
  unfold Jj
  rw [Rn k1 k2]
  by_cases hc:ach n1 s1 d1 n2 s2 d2≤0
  ·rw [decide_eq_true hc,if_pos hc];exact zQ k1 φ
  ·rw [decide_eq_false hc,if_neg hc];exact zQ k2 φ
 replace h:=gU h
 rcases h with ⟨e,h⟩|⟨-,h⟩
 ·subst e
  refine ⟨dS (by kernel_rfl),fun φ aG w ha=>um (R:=fun p q=>rv (Am p q)) (fun n1 s1 d1 n2 s2 d2 w h1 h2 h3 h4 _ _=>Yw n1 (bn s1) (bn d1) n2 (bn s2) (bn d2) w jb jb) (fun n1 s1 d1 n2 s2 d2 k1 k2 φ=>?_) h ha w⟩
  unfold Am
  rw [Rn k1 k2]
  by_cases hc:0≤ach n1 s1 d1 n2 s2 d2
  ·rw [decide_eq_true hc,if_pos hc];exact zQ k1 φ
  ·rw [decide_eq_false hc,if_neg hc];exact zQ k2 φ
 replace h:=gU h
 rcases h with ⟨e,h⟩|⟨-,h⟩
 ·subst e
  exact ⟨dS (by kernel_rfl),fun φ aG w ha=>LK (R:=rv) (fun n s d w h1 h2 _=>clean_any n (bn s) (bn d) w jb jb) (fun n s d k φ=>zQ k φ) h ha w⟩
 replace h:=gU h
 rcases h with ⟨e,h⟩|⟨-,h⟩
 ·subst e
  refine ⟨dS (by kernel_rfl),fun φ aG w ha=>um (R:=fun p q=>rv (p+q)) (fun n1 s1 d1 n2 s2 d2 w h1 h2 h3 h4 k1 k2=>?_) (fun n1 s1 d1 n2 s2 d2 k1 k2 φ=>Z5 k1 k2 φ) h ha w⟩
  have:=Ac (rq n1 (bn s1) (bn d1)) (rq n2 (bn s2) (bn d2)) 250 250 w (agJ k1) (agJ k2) jb
  obtain ⟨a1,-,-,a2,a3⟩:=yh k1
  obtain ⟨b1,-,-,b2,b3⟩:=yh k2
  rw [a1,a2,a3,b1,b2,b3] at this
  exact this
 replace h:=gU h
 rcases h with ⟨e,h⟩|⟨-,h⟩
 ·subst e
  refine ⟨dS (by kernel_rfl),fun φ aG w ha=>LK (g:=fun _ _ _=>.c (.bool true)) (R:=fun _=>.bool true) (fun n s d w h1 h2 k=>?_) (fun n s d k φ=>rfl) h ha w⟩
  have:=Nz n (bn s) (bn d) w jb jb
  rwa [wB (qK k).1] at this
 replace h:=gU h
 rcases h with ⟨e,h⟩|⟨-,h⟩
 ·subst e
  refine ⟨dS (by kernel_rfl),fun φ aG w ha=>?_⟩
  unfold ajQ at h
  split at h
  ·next i =>
   cases hb:LP .i64 i with
   | false=>rw [hb] at h;cases h
   | true =>
    rw [hb] at h
    cases h
    obtain ⟨u,rfl,hu⟩:=nV ha
    have hu:u = .int .i64 i:=hu
    rw [hu]
    have hr : -9223372036854775808≤i∧i≤9223372036854775807:=by
     cases i with
     | ofNat m=>have:=Nat.le_of_ble_eq_true hb;simp only [Int.ofNat_eq_natCast];omega
     | negSucc m=>have:=Nat.le_of_ble_eq_true hb;omega
    exact .of (Yu i w hr.1 hr.2) (Z8 i)
  ·cases h
 replace h:=gU h
 rcases h with ⟨e,h⟩|⟨-,h⟩
 ·subst e
  refine ⟨dS (by kernel_rfl),fun φ aG w ha=>?_⟩
  unfold akM at h
  split at h
  ·next n x0 y0 =>
   split at h
   rotate_left
   ·cases h
   next a b hx0 hy0 =>
   cases hb:(sm a && sm b) with
   | false=>rw [hb] at h;cases h
   | true =>
    rw [hb] at h
    rw [Bool.and_eq_true] at hb
    simp only [cond_true,Option.some.injEq] at h
    obtain ⟨u,x,t,rfl,hu,hx,ht⟩:=JO ha
    have hu:u = .bool n:=hu
    have hx:x = .string (bn a):=mg hx0 hx
    have ht:t = .string (bn b):=mg hy0 ht
    rw [hu,hx,ht]
    have s1:=vC hb.1
    have s2:=vC hb.2
    rw [kW] at h
    by_cases h0:b=0
    ·rw [if_pos h0] at h
     rw [← h]
     exact .of (Yt n _ _ w jb (by rw [bK];exact h0)) (fun φ=>Ea (Rl φ))
    ·rw [if_neg h0] at h
     rw [← h]
     have:=SQ n (bn a) (bn b) w jb jb (by rw [bK];omega)
     rw [bK,bK] at this
     exact .of this (fun φ=>Ea (zO jb φ))
  ·cases h
 replace h:=gU h
 rcases h with ⟨e,h⟩|⟨-,h⟩
 ·subst e
  refine ⟨dS (by kernel_rfl),fun φ aG w ha=>?_⟩
  unfold akN at h
  split at h
  ·next u =>
   cases hb:Nat.blt u 18446744073709551616 with
   | false=>rw [hb] at h;cases h
   | true =>
    rw [hb] at h
    cases h
    obtain ⟨x,rfl,hx⟩:=nV ha
    have hx:x = .int .u64 (u:Int):=hx
    rw [hx]
    exact .of (xA u w (Nat.le_of_ble_eq_true hb)) (fun φ=>rfl)
  ·cases h
 replace h:=gU h
 rcases h with ⟨e,h⟩|⟨-,h⟩
 ·subst e
  refine ⟨dS (by kernel_rfl),fun φ aG w ha=>Ec (R:=fun a b=>.string (bn (a+b))) (fun a b w h1 h2=>?_) (fun a b φ=>Rq _ φ) h ha w⟩
  have:=add_any (bn a) (bn b) w jb jb
  rwa [bK,bK] at this
 replace h:=gU h
 rcases h with ⟨e,h⟩|⟨-,h⟩
 ·subst e
  refine ⟨dS (by kernel_rfl),fun φ aG w ha=>Ec (R:=OY) (fun a b w h1 h2=>?_) (fun a b φ=>ajS a b φ) h ha w⟩
  have:=vG (bn a) (bn b) w jb jb
  rwa [bK,bK] at this
 replace h:=gU h
 rcases h with ⟨e,h⟩|⟨-,h⟩
 ·subst e
  refine ⟨dS (by kernel_rfl),fun φ aG w ha=>Ec (R:=fun a b=>.string (bn (a*b))) (fun a b w h1 h2=>?_) (fun a b φ=>Rq _ φ) h ha w⟩
  have:=CS (bn a) (bn b) w jb jb
  rwa [bK,bK] at this
 replace h:=gU h
 rcases h with ⟨e,h⟩|⟨-,h⟩
 ·subst e
  refine ⟨dS (by kernel_rfl),fun φ aG w ha=>Ec (R:=fun a b=>.string (bn (Nat.gcd a b))) (fun a b w h1 h2=>?_) (fun a b φ=>Rq _ φ) h ha w⟩
  have:=Ho (bn a) (bn b) w jb jb
  rwa [bK,bK] at this
 replace h:=gU h
 rcases h with ⟨e,h⟩|⟨-,h⟩
 ·subst e
  refine ⟨dS (by kernel_rfl),fun φ aG w ha=>?_⟩
  unfold akO at h
  split at h
  ·next x0 y0 =>
   split at h
   rotate_left
   ·cases h
   next a b hx0 hy0 =>
   cases hb:(sm a && (sm b && !Nat.beq b 0)) with
   | false=>rw [hb] at h;cases h
   | true =>
    rw [hb] at h
    cases h
    simp only [Bool.and_eq_true,Bool.not_eq_true'] at hb
    obtain ⟨u,x,rfl,hu,hx⟩:=qy ha
    have hu:u = .string (bn a):=mg hx0 hu
    have hx:x = .string (bn b):=mg hy0 hx
    rw [hu,hx]
    have s1:=vC hb.1
    have s2:=vC hb.2.1
    have h0:0<b:=Nat.pos_of_ne_zero fun e=>by rw [e] at hb;exact absurd hb.2.2 jj
    have:=FQ (bn a) (bn b) w jb jb (by rw [bK];exact h0)
    rw [bK,bK] at this
    refine .of this fun φ=>?_
    simp only [iY]
    exact ⟨_,[.string (bn (a%b)),.bool true],rfl,rfl,_,[.bool true],rfl,rfl,.bool true,[],rfl,rfl,rfl⟩
  ·cases h
 replace h:=gU h
 rcases h with ⟨e,h⟩|⟨-,h⟩
 ·subst e
  refine ⟨dS (by kernel_rfl),fun φ aG w ha=>?_⟩
  unfold ajQ at h
  split at h
  ·next i =>
   cases hb:LP .i64 i with
   | false=>rw [hb] at h;cases h
   | true =>
    rw [hb] at h
    cases h
    obtain ⟨u,rfl,hu⟩:=nV ha
    have hu:u = .int .i64 i:=hu
    rw [hu]
    have hr : -9223372036854775808≤i∧i≤9223372036854775807:=by
     cases i with
     | ofNat m=>have:=Nat.le_of_ble_eq_true hb;simp only [Int.ofNat_eq_natCast];omega
     | negSucc m=>have:=Nat.le_of_ble_eq_true hb;omega
    exact .of (zU i w hr.1 hr.2) (Z8 i)
  ·cases h
 cases h
theorem Z9 (f:Nat) (args:List V) (σ:St) (v:V) (σ' : St) (h:ajR f args σ=some (v,σ')):okF Tryz.prog f∧∀ (N:Nat) (w0:World) (φ:Ph) (w:World) (aG:Array Value),Rel N w0 φ σ w→wE φ args aG.toList →
  Calls Tryz.prog f aG w fun e w'=>∃ cv,e = .returned cv∧∃ φ',Ext σ.ah φ φ'∧Rel N w0 φ' σ' w'∧RV φ' v cv∧σ.ah≤σ'.ah:=by
 unfold ajR at h
 split at h
 ·next u hu =>
  cases h
  obtain ⟨h1,h2⟩:=aof f args _ hu
  refine ⟨h1,fun N w0 φ w aG hR ha=>(h2 φ aG w ha).mono fun e w' he=>?_⟩
  obtain ⟨cv,rfl,hb,hv⟩:=he
  exact ⟨cv,rfl,φ,Ext.refl _ _,hR.below hb,hv φ,jp⟩
 ·cases h
theorem agK {o:Option (V×St)} (h:isT o=true) : ∃ σ,o=some (.c (.bool true),σ):=by
 unfold isT at h
 split at h
 ·next σ=>exact ⟨σ,rfl⟩
 ·cases h
end Go.Proofs.Xe
namespace Go.Proofs.Xe
open Go Go.RowKit Go.Proofs.Ins
noncomputable section
noncomputable def ajT (f:Nat):Option AF:=tF Tryz.prog f
theorem aac (f:Nat) (F:AF) (h:ajT f=some F):Tv Tryz.prog f F=true:=by
 unfold ajT at h
 exact akt h
noncomputable def EK:Env:=⟨ajT,ajR⟩
theorem ara:NQ Tryz.prog EK:=by
 refine ⟨?_,?_⟩
 ·intro f F h
  unfold EK at h
  dsimp only at h
  exact aac f F h
 ·intro f args σ v σ' h
  unfold EK at h
  exact Z9 f args σ v σ' h
end
end Go.Proofs.Xe
namespace Go.Proofs.Xe
open Go.RowKit Go.Proofs Go.Proofs.Ins
def frB:B→B
 | .sl b o n _=>.sl b o n .any
 | x=>x
noncomputable def ajU (k:Bk):Bk:=⟨k.cells.map frB,some (0,1)⟩
noncomputable def frT (σ:St):Nat→Tr Bk
 | 0=>.leaf
 | n+1=>match σ.h.get n with
  | some k=>(frT σ n).set n (some (ajU k))
  | none=>frT σ n
noncomputable def frS (σ:St):St:=⟨frT σ σ.ah,σ.ah⟩
noncomputable def aci (m:Nat) (b:Bool):Option (V×St):=ig EK 100 39 [.c (.int .i64 (.ofNat m)),.c (.bool b)] ⟨.leaf,0⟩
noncomputable def ajV (f:Nat) (o:Option (V×St)):Option (V×St):=match o with
 | some (.agg l,σ)=>ig EK 2000 f [.agg (l.map frB)] (frS σ)
 | _=>none
def acj (s k:Nat) (x y:B):Bool:=match x,y with
 | .int .i64 a,.int .i64 b=>decide (a=b)
 | .bool a,.bool b=>bif a then b else !b
 | .str a,.str b=>Nat.beq a.size 0 && Nat.beq b.size 0
 | .nat a,.nat b=>Nat.beq a b
 | .aY,.aY=>true
 | .sl b o n _,.sl b' o' n' _=>Nat.beq b' (b+s) && (Nat.blt b k && (Nat.beq o o' && Nat.beq n n'))
 | _,_=>false
theorem aad {a:ByteArray} (h:a.size=0):a=⟨#[]⟩:=by
 obtain ⟨l⟩:=a
 congr
 exact Array.eq_empty_of_size_eq_zero h
section
variable {φ φ0:Ph} {s k:Nat}
theorem aae {x y:B} {v:Value} (h:acj s k x y=true) (hφ : ∀ b,b<k→φ0 b=φ (b+s)) (hv:RB φ y v):RB φ0 (frB x) v∧y.kn=true:=by
 unfold acj at h
 split at h
 ·next a b=>rw [of_decide_eq_true h];exact ⟨hv,rfl⟩
 ·next a b =>
  have e:a=b:=by cases a <;> cases b <;> first|rfl|cases h
  rw [e];exact ⟨hv,rfl⟩
 ·next a b =>
  rw [Bool.and_eq_true] at h
  rw [aad (Nat.eq_of_beq_eq_true h.1)]
  rw [aad (Nat.eq_of_beq_eq_true h.2)] at hv
  exact ⟨hv,rfl⟩
 ·next a b=>rw [Nat.eq_of_beq_eq_true h];exact ⟨hv,rfl⟩
 ·exact ⟨hv,rfl⟩
 ·next b o n c b' o' n' c' =>
  simp only [Bool.and_eq_true] at h
  obtain ⟨h1,h2,h3,h4⟩:=h
  have e1:=Nat.eq_of_beq_eq_true h1
  have e3:=Nat.eq_of_beq_eq_true h3
  have e4:=Nat.eq_of_beq_eq_true h4
  have h2:b<k:=by simpa [Nat.blt_eq] using h2
  subst e1 e3 e4
  refine ⟨?_,rfl⟩
  rcases hv with ⟨p,K,hp,e,a1,a2,-⟩|⟨h0,-,a,K,e,a1⟩
  ·exact .inl ⟨p,K,by rw [hφ b h2];exact hp,e,a1,a2,trivial⟩
  ·subst h0
   exact .inr ⟨rfl,rfl,a,K,e,a1⟩
 ·cases h
theorem ajW {x y:B} (h:acj s k x y=true):y.kn=true:=by
 unfold acj at h
 split at h <;> first|rfl|cases h
def nM (s k:Nat):List B→List B→Bool
 | [],[]=>true
 | x::l,y::r=>acj s k x y && nM s k l r
 | _,_=>false
theorem Vk : ∀ {l r:List B} {j:Nat} {x:B},nM s k l r=true→l[j]?=some x→∃ y,r[j]?=some y∧acj s k x y=true
 | x::l,y::r,0,_,h,hx=>by
  cases hx
  unfold nM at h
  rw [Bool.and_eq_true] at h
  exact ⟨y,rfl,h.1⟩
 | x::l,y::r,j+1,z,h,hx=>by
  unfold nM at h
  rw [Bool.and_eq_true] at h
  exact Vk (l:=l) (r:=r) h.2 (by simpa using hx)
 | [],_,_,_,_,hx=>by simp at hx
 | _::_,[],_,_,h,_=>by cases h
theorem aaf (hφ : ∀ b,b<k→φ0 b=φ (b+s)) : ∀ {l r:List B} {vs:List Value},nM s k l r=true→kL φ r vs→kL φ0 (l.map frB) vs
 | [],[],[],_,_=>trivial
 | [],[],_::_,_,hv=>hv.elim
 | x::l,y::r,v::vs,h,hv=>by
  unfold nM at h
  rw [Bool.and_eq_true] at h
  exact ⟨(aae h.1 hφ hv.1).1,aaf hφ h.2 hv.2⟩
 | _::_,_::_,[],_,hv=>hv.elim
 | [],_::_,_,h,_=>by cases h
 | _::_,[],_,h,_=>by cases h
def arb (s k:Nat) (x y:Option Bk):Bool:=match x,y with
 | none,_=>true
 | some a,some b=>b.rd && nM s k a.cells b.cells
 | some _,none=>false
noncomputable def mF (s:Nat) (σ1 σ:St):Nat→Bool
 | 0=>true
 | n+1=>arb s σ1.ah (σ1.h.get n) (σ.h.get (n+s)) && mF s σ1 σ n
theorem aag {σ1 σ:St} {b:Nat} : ∀ {n:Nat},mF s σ1 σ n=true→b<n→arb s σ1.ah (σ1.h.get b) (σ.h.get (b+s))=true
 | n+1,h,hb=>by
  unfold mF at h
  rw [Bool.and_eq_true] at h
  by_cases e:b=n
  ·rw [e];exact h.1
  ·exact aag h.2 jb
theorem Iu (σ:St) (b:Nat) : ∀ n,(frT σ n).get b=if b<n then (σ.h.get b).map ajU else none
 | 0=>by rw [if_neg jb];exact Tr.C9 b
 | n+1=>by
  unfold frT
  cases hn:σ.h.get n with
  | none =>
   show (frT σ n).get b=_
   rw [Iu σ b n]
   by_cases e:b=n
   ·subst e;rw [if_neg jb,if_pos jb,hn];rfl
   ·by_cases hlt:b<n
    ·rw [if_pos hlt,if_pos jb]
    ·rw [if_neg hlt,if_neg jb]
  | some k =>
   show ((frT σ n).set n (some (ajU k))).get b=_
   rw [Tr.lN,Iu σ b n]
   by_cases e:b=n
   ·subst e;rw [if_pos rfl,if_pos jb,hn];rfl
   ·rw [if_neg e]
    by_cases hlt:b<n
    ·rw [if_pos hlt,if_pos jb]
    ·rw [if_neg hlt,if_neg jb]
theorem Rel.frz {N:Nat} {w0 w:World} {σ σ1:St} (hR:Rel N w0 φ σ w) (h:mF s σ1 σ σ1.ah=true):Rel w.heap.size w (fun b=>if b<σ1.ah then φ (b+s) else none) (frS σ1) w:=by
 have lo : ∀ b p,(if b<σ1.ah then φ (b+s) else none)=some p→b<σ1.ah∧φ (b+s)=some p:=fun b p hp=>by
  split at hp
  ·next hlt=>exact ⟨hlt,hp⟩
  ·cases hp
 have hg : ∀ b k,(frS σ1).h.get b=some k→∃ k0,σ1.h.get b=some k0∧k=ajU k0:=fun b k hk=>by
  have hk:(frT σ1 σ1.ah).get b=some k:=hk
  rw [Iu] at hk
  split at hk
  ·obtain ⟨k0,h1,h2⟩:=Option.map_eq_some_iff.mp hk
   exact ⟨k0,h1,h2.symm⟩
  ·cases hk
 refine ⟨jp,Below.refl _ _,fun b b' p p' h1 h2 e hN _ _=>?_,fun b p hp=>hR.lo _ _ (lo b p hp).2,fun b k p hk _ _=>?_,fun b k p hk hp=>?_,fun b hb=>⟨if_neg (by have hb:σ1.ah≤b:=hb;omega),?_⟩⟩
 ·have:=hR.lo _ _ (lo b p h1).2
  omega
 ·obtain ⟨k0,-,rfl⟩:=hg b k hk
  exact ⟨rfl,rfl⟩
 ·obtain ⟨k0,h0,rfl⟩:=hg b k hk
  obtain ⟨hlt,hp⟩:=lo b p hp
  refine .inr (.inr ⟨rfl,rfl,fun j x hj hx=>?_⟩)
  have hc:=aag h hlt
  rw [h0] at hc
  cases hs:σ.h.get (b+s) with
  | none=>rw [hs] at hc;cases hc
  | some k2 =>
   rw [hs] at hc
   have hc:(k2.rd && nM s σ1.ah k0.cells k2.cells)=true:=hc
   rw [Bool.and_eq_true] at hc
   have hj:(k0.cells.map frB)[j]?=some x:=hj
   rw [List.getElem?_map] at hj
   obtain ⟨x0,hx0,rfl⟩:=Option.map_eq_some_iff.mp hj
   obtain ⟨y,hy,hxy⟩:=Vk hc.2 hx0
   have hyk:=ajW hxy
   obtain ⟨v,h1,h2⟩:=hR.read hs hc.1 hp hy hyk
   exact ⟨v,h1,(aae hxy (fun b hb=>if_pos hb) h2).1⟩
 ·have hb:σ1.ah≤b:=hb
  show (frT σ1 σ1.ah).get b=none
  rw [Iu,if_neg jb]
end
/-! ### The answers -/
def monC (a b:Nat):List B:=[.bool false,.nat a,.nat 0,.bool false,.nat b,.nat 0]
noncomputable def ans (M:List B) (σ:St):Option (V×St):=match σ.new ⟨M,some (0,1)⟩ with
 | some (b,σ')=>fN (b+1) fun b1=>fN (b+2) fun b2=>fN (b+3) fun b3=>fN (b+4) fun b4=>fN (b+5) fun b5=>fN (b+6) fun b6=>fN (b+7) fun b7=>fN (b+8) fun b8 =>
  some (.cZ (.agg [.sl b 0 2 .any,.sl b1 0 2 .any,.sl b2 0 2 .any,.sl b3 0 2 .any,.sl b4 0 2 .any,.sl b5 0 2 .any,.sl b6 0 2 .any,.sl b7 0 2 .any]) (.cZ (.c (.int .i64 (.ofNat 0))) .tnil),⟨σ'.h,b8⟩)
 | none=>none
noncomputable def agM (o:Option (V×St)) (M:List B) (args:List V) (σ:St):Option (V×St):=match o,args with
 | some (.agg l,σ1),[.agg r]=>fN (σ.ah - σ1.ah) fun s=>bif nM s σ1.ah l r && mF s σ1 σ σ1.ah then ans M σ else none
 | _,_=>none
noncomputable def acn (x y:Nat) (o:Option (V×St)):Bool:=match o with
 | some (.cZ (.agg [.sl b 0 2 _,.sl _ 0 2 _,.sl _ 0 2 _,.sl _ 0 2 _,.sl _ 0 2 _,.sl _ 0 2 _,.sl _ 0 2 _,.sl _ 0 2 _]) (.cZ (.c (.int .i64 (.ofNat 0))) .tnil),σ)=>(match σ.h.get b with
  | some ⟨[.bool false,.nat a,.nat 0,.bool false,.nat c,.nat 0],some (3,_)⟩=>Nat.beq a x && Nat.beq c y
  | _=>false)
 | _=>false
theorem aco {x y:Nat} {o:Option (V×St)} (h:acn x y o=true) : ∃ b c b1 c1 b2 c2 b3 c3 b4 c4 b5 c5 b6 c6 b7 c7 σ t,o=some (.cZ (.agg [.sl b 0 2 c,.sl b1 0 2 c1,.sl b2 0 2 c2,.sl b3 0 2 c3,.sl b4 0 2 c4,.sl b5 0 2 c5,.sl b6 0 2 c6,.sl b7 0 2 c7]) (.cZ (.c (.int .i64 (.ofNat 0))) .tnil),σ)∧σ.h.get b=some ⟨monC x y,some (3,t)⟩:=by
 unfold acn at h
 split at h
 ·next b c c1 b1 c2 b2 c3 b3 c4 b4 c5 b5 c6 b6 c7 b7 σ =>
  split at h
  ·next a d t hs =>
   rw [Bool.and_eq_true] at h
   rw [Nat.eq_of_beq_eq_true h.1,Nat.eq_of_beq_eq_true h.2] at hs
   exact ⟨_,_,_,_,_,_,_,_,_,_,_,_,_,_,_,_,_,_,rfl,hs⟩
  ·cases h
 ·cases h
theorem aog {φ:Ph} {b:Nat} {c:Cap} {v:Value} (h:RB φ (.sl b 0 2 c) v) : ∃ p,φ b=some p∧∀ φ' b',φ' b' = some p→RB φ' (.sl b' 0 2 .any) v:=by
 rcases h with ⟨p,K,hp,e,h1,h2,-⟩|⟨h,-⟩
 ·exact ⟨p,hp,fun φ' b' h'=>.inl ⟨p,K,h',e,h1,h2,trivial⟩⟩
 ·cases h
theorem aoh {M:List B} {σ:St} : ans M σ=some (.cZ (.agg [.sl σ.ah 0 2 .any,.sl (σ.ah+1) 0 2 .any,.sl (σ.ah+2) 0 2 .any,.sl (σ.ah+3) 0 2 .any,.sl (σ.ah+4) 0 2 .any,.sl (σ.ah+5) 0 2 .any,.sl (σ.ah+6) 0 2 .any,.sl (σ.ah+7) 0 2 .any]) (.cZ (.c (.int .i64 (.ofNat 0))) .tnil),⟨σ.h.set σ.ah (some ⟨M,some (0,1)⟩),σ.ah+8⟩):=by
 unfold ans St.new Tr.put
 simp only [iY]
def newP (φ φ2:Ph) (n:Nat) (bs:List Nat):Ph:=fun b=>if b<n then φ b else match bs[b - n]? with|some c=>φ2 c|none=>none
theorem Rt {f:Nat} (hf:okF Tryz.prog f) {o:Option (V×St)} {x y:Nat} (hr:acn x y (ajV f o)=true) {args:List V} {σ σ' : St} {v:V} (h:agM o (monC x y) args σ=some (v,σ')):okF Tryz.prog f∧∀ (N:Nat) (w0:World) (φ:Ph) (w:World) (aG:Array Value),Rel N w0 φ σ w→wE φ args aG.toList →
  Calls Tryz.prog f aG w fun e w'=>∃ cv,e = .returned cv∧∃ φ',Ext σ.ah φ φ'∧Rel N w0 φ' σ' w'∧RV φ' v cv∧σ.ah≤σ'.ah:=by
 refine ⟨hf,fun N w0 φ w aG hR hargs=>?_⟩
 unfold agM at h
 split at h
 rotate_left
 ·cases h
 next l σ1 r =>
 rw [iY] at h
 cases hc:(nM (σ.ah - σ1.ah) σ1.ah l r && mF (σ.ah - σ1.ah) σ1 σ σ1.ah) with
 | false=>rw [hc] at h;cases h
 | true =>
  rw [hc,cond_true,aoh] at h
  rw [Bool.and_eq_true] at hc
  generalize σ.ah - σ1.ah=s at hc
  obtain ⟨b,c,b1,c1,b2,c2,b3,c3,b4,c4,b5,c5,b6,c6,b7,c7,σ2,t,e2,hm⟩:=aco hr
  have e2:ig EK 2000 f [.agg (l.map frB)] (frS σ1)=_:=e2
  have hR1:=hR.frz hc.2
  cases h
  obtain ⟨la⟩:=aG
  match la,hargs with
  | [u],hargs =>
  obtain ⟨⟨ra,rfl,hra⟩,-⟩:=hargs
  refine (EL ara (by kernel_rfl) e2 hR1 (aG:=#[.agg ra]) ⟨⟨ra,rfl,aaf (fun b hb=>if_pos hb) hc.1 hra⟩,trivial⟩).mono fun e w' he=>?_
  obtain ⟨cv,rfl,φ2,-,hR2,hv,-⟩:=he
  refine ⟨cv,rfl,newP φ φ2 σ.ah [b,b1,b2,b3,b4,b5,b6,b7],fun b hb=>if_pos hb,?_,?_,Nat.le_add_right _ _⟩
  ·have hR3:=hR.below hR2.bel
   have hE:Ext σ.ah φ (newP φ φ2 σ.ah [b,b1,b2,b3,b4,b5,b6,b7]):=fun b hb=>if_pos hb
   have hN0:newP φ φ2 σ.ah [b,b1,b2,b3,b4,b5,b6,b7] σ.ah=φ2 b:=by
    unfold newP
    rw [if_neg jb,Nat.sub_self];rfl
   have hnew : ∀ p,newP φ φ2 σ.ah [b,b1,b2,b3,b4,b5,b6,b7] σ.ah=some p→w.heap.size≤p.1:=fun p hp=>hR2.hi hm (by rw [← hN0];exact hp) (.inl rfl)
   have hlo : ∀ i p,newP φ φ2 σ.ah [b,b1,b2,b3,b4,b5,b6,b7] i=some p→p.1<w'.heap.size:=fun i p hp=>by
    unfold newP at hp
    split at hp
    ·exact hR3.lo _ _ hp
    ·split at hp
     ·exact hR2.lo _ _ hp
     ·cases hp
   have hsg : ∀ i,i≠σ.ah→(σ.h.set σ.ah (some ⟨monC x y,some (0,1)⟩)).get i=σ.h.get i:=fun i hi=>by rw [Tr.lN,if_neg hi]
   have hs0:(σ.h.set σ.ah (some (⟨monC x y,some (0,1)⟩:Bk))).get σ.ah=some ⟨monC x y,some (0,1)⟩:=by rw [Tr.lN,if_pos rfl]
   have hlt : ∀ i,(σ.h.get i).isSome=true→i<σ.ah:=fun i hi=>by
    rcases Nat.lt_or_ge i σ.ah with h|h
    ·exact h
    ·rw [(hR.ah i h).2] at hi;cases hi
   have hold : ∀ i p,i<σ.ah→newP φ φ2 σ.ah [b,b1,b2,b3,b4,b5,b6,b7] i=some p→φ i=some p:=fun i p hi hp=>by rw [← hE i hi];exact hp
   refine ⟨hR3.n0,hR3.bel,fun i j p p' h1 h2 e hN i1 i2=>?_,hlo,fun i k p hk hp hN=>?_,fun i k p hk hp=>?_,fun i hi=>?_⟩
   ·by_cases e1:i=σ.ah
    ·by_cases e2:j=σ.ah
     ·rw [e1,e2]
     ·rw [hsg j e2] at i2
      have:=hR.lo _ _ (hold j p' (hlt j i2) h2)
      rw [e1] at h1
      have:=hnew p h1
      omega
    ·rw [hsg i e1] at i1
     by_cases e2:j=σ.ah
     ·have:=hR.lo _ _ (hold i p (hlt i i1) h1)
      rw [e2] at h2
      have:=hnew p' h2
      omega
     ·rw [hsg j e2] at i2
      exact hR.inj i j p p' (hold i p (hlt i i1) h1) (hold j p' (hlt j i2) h2) e hN i1 i2
   ·by_cases e1:i=σ.ah
    ·rw [e1,hs0] at hk
     cases hk
     exact ⟨rfl,rfl⟩
    ·rw [hsg i e1] at hk
     exact hR.fz i k p hk (hold i p (hlt i (by rw [hk];rfl)) hp) hN
   ·by_cases e1:i=σ.ah
    ·rw [e1,hs0] at hk
     cases hk
     rw [e1,hN0] at hp
     refine .inr (.inr ⟨rfl,rfl,fun j z hz hzk=>?_⟩)
     obtain ⟨v,h1,h2⟩:=hR2.read hm rfl hp hz hzk
     refine ⟨v,h1,?_⟩
     have hz:(monC x y)[j]?=some z:=hz
     have hmem:=List.mem_of_getElem? hz
     unfold monC at hmem
     simp only [List.mem_cons,List.not_mem_nil,or_false] at hmem
     rcases hmem with rfl|rfl|rfl|rfl|rfl|rfl <;> exact h2
    ·rw [hsg i e1] at hk
     exact (hR3.blk i k p hk (hold i p (hlt i (by rw [hk];rfl)) hp)).ext hE hR.old
   ·have hi:σ.ah+8≤i:=hi
    refine ⟨?_,?_⟩
    ·unfold newP
     rw [if_neg jb,List.getElem?_eq_none (by simp only [List.length_cons,List.length_nil];omega)]
    ·show (σ.h.set σ.ah (some ⟨monC x y,some (0,1)⟩)).get i=none
     rw [hsg i jb]
     exact (hR.ah i jb).2
  ·obtain ⟨a1,tl,ea,⟨r,rfl,hr8⟩,hrest⟩:=hv
   refine ⟨_,tl,ea,⟨r,rfl,?_⟩,hrest⟩
   obtain ⟨lr⟩:=r
   match lr,hr8 with
   | [d0,d1,d2,d3,d4,d5,d6,d7],⟨k0,k1,k2,k3,k4,k5,k6,k7,_⟩ =>
    have hn : ∀ (i:Nat) {bi:Nat},[b,b1,b2,b3,b4,b5,b6,b7][i]?=some bi→newP φ φ2 σ.ah [b,b1,b2,b3,b4,b5,b6,b7] (σ.ah+i)=φ2 bi:=fun i bi hb=>by
     unfold newP
     rw [if_neg jb,Nat.add_sub_cancel_left,hb]
    have key : ∀ (i:Nat) {bi:Nat} {ci:Cap} {d:Value},[b,b1,b2,b3,b4,b5,b6,b7][i]?=some bi→RB φ2 (.sl bi 0 2 ci) d→RB (newP φ φ2 σ.ah [b,b1,b2,b3,b4,b5,b6,b7]) (.sl (σ.ah+i) 0 2 .any) d:=fun i bi ci d hb hd=>by
     obtain ⟨p,hp,hq⟩:=aog hd
     exact hq _ _ (by rw [hn i hb];exact hp)
    exact ⟨key 0 rfl k0,key 1 rfl k1,key 2 rfl k2,key 3 rfl k3,key 4 rfl k4,key 5 rfl k5,key 6 rfl k6,key 7 rfl k7,trivial⟩
theorem ard:acn 10 10 (ajV 8 (aci 0 false))=true:=by kernel_rfl
theorem arf:acn 0 0 (ajV 9 (aci 0 false))=true:=by kernel_rfl
theorem arh:acn 6 3 (ajV 8 (aci 3 true))=true:=by kernel_rfl
end Go.Proofs.Xe
