/- The walks of natural: subtract, Subtract, Multiply. -/
import Derived.Test.YtjonjhcaniinaaaGreatDoorZ2
import Derived.Lib.Bytealg
import Derived.Test.YtjonjhcaniinaaaGreatDoorTie
import Derived.ProofKit
import Derived.OpenShut
import Derived.Deep.Slices
import Derived.Deep.Strs
import Derived.Lib.SmallJoins
import Derived.Carry
set_option linter.all false
set_option maxRecDepth 100000
set_option maxHeartbeats 8000000
namespace Go.Proofs.Ins
open Go.RowKit
def kS (x y:Nat):Int:=if x<y then -1 else if y<x then 1 else 0
theorem nR {x y:Nat} (h:x<y):kS x y = -1:=by unfold kS;rw [if_pos h]
theorem uM {x y:Nat} (h:y<x):kS x y=1:=by unfold kS;rw [if_neg jb,if_pos h]
theorem GY (x:Nat):kS x x=0:=by unfold kS;rw [if_neg jb,if_neg jb]
theorem Gn : ∀ (l r:List UInt8),l.length=r.length→Lib.compareBytes l r=kS (bv l) (bv r):=by
 intro l
 induction l with
 | nil=>intro r h;cases r with
  | nil=>rfl
  | cons _ _=>simp at h
 | cons a l ih =>
  intro r h
  cases r with
  | nil=>simp at h
  | cons b r =>
   have hl:l.length=r.length:=by simpa using h
   unfold Lib.compareBytes
   have h1:=FC l
   have h2:=FC r
   rw [ru,ru,hl]
   rw [hl] at h1
   by_cases c1:a<b
   ·rw [if_pos c1]
    have:a.toNat<b.toNat:=c1
    have:a.toNat*256 ^ r.length+256 ^ r.length≤b.toNat*256 ^ r.length:=by rw [← Nat.succ_mul];exact Nat.mul_le_mul_right _ this
    rw [nR jb]
   ·rw [if_neg c1]
    by_cases c2:b<a
    ·rw [if_pos c2]
     have:b.toNat<a.toNat:=c2
     have:b.toNat*256 ^ r.length+256 ^ r.length≤a.toNat*256 ^ r.length:=by rw [← Nat.succ_mul];exact Nat.mul_le_mul_right _ this
     rw [uM jb]
    ·rw [if_neg c2,ih r hl]
     have e:a.toNat=b.toNat:=by
      have c1' : ¬ a.toNat<b.toNat:=c1
      have c2' : ¬ b.toNat<a.toNat:=c2
      omega
     rw [e];unfold kS
     congr 1
     ·simp
     ·congr 1;simp
theorem Nl (a:Option Addr) (cap:Nat) (w:World) :
  Calls Tryz.prog 76 #[.slice a 0 cap] w fun e w'=>e = .returned (.string (bn 0))∧Below w.heap.size w w':=by
 go_enter Tryz.func76,Tryz.ntmps76
 go_wp2_with (refine eX _ _ 179 5 .u8 1 0 _ rfl rfl Tryz.underlying179 IX rfl rfl jb jb jb ?_;intro w1 hr1 hb1 hz1)
 go_loopw [11] (fun i wr=>i = .int .i64 0∧wr=w1) (fun i _=>0)
 case atStart=>exact ⟨rfl,rfl⟩
 case round =>
  obtain ⟨rfl,rfl⟩:=hrel
  have hcv:=hr1.str (P:=Tryz.prog) (src:=179) (dst:=9) 0 Tryz.underlying179 Tryz.underlying5 Tryz.underlying9
  clear hr1 hz1
  go_wp2_with (go_at_call 72;refine (aV _ _ ?_).mono ?_;(rw [vX];omega);rintro e w' ⟨rfl,rfl⟩)
  go_ret
  exact ⟨rfl,hb1⟩
theorem CP (a:Option Addr) (len cap x:Nat) (w:World) (h:Limbs w a len x) (hl:len≤1073741824) (hcap:len≤cap) :
  Calls Tryz.prog 76 #[.slice a len cap] w fun e w'=>e = .returned (.string (bn x))∧Below w.heap.size w w':=by
 obtain ⟨f,rfl,h2,h3⟩:=h
 rcases h3 with rfl|⟨b,off,rfl,hr⟩
 ·exact Nl a cap w
 ·exact vY b off len cap f w hl hcap hr h2.1
def VF (n:Int):Int:=if n<0 then -1 else if 0<n then 1 else 0
theorem OO {n:Int} (h:n<0):VF n = -1:=by unfold VF;rw [if_pos h]
theorem OQ {n:Int} (h:0<n):VF n=1:=by unfold VF;rw [if_neg jb,if_pos h]
set_option maxRecDepth 100000 in
theorem RP (n:Int) (w:World):Calls Tryz.prog 73 #[.int .i64 n] w fun e w'=>e = .returned (.int .i64 (VF n))∧w=w':=by
 rcases (show n<0∨0<n∨n=0 by omega) with h1|h1|rfl
 ·have h2:decide (n<0)=true:=by simpa using h1
  go_enter Tryz.func73,Tryz.ntmps73
  go_wp2
  go_ret
  exact ⟨aW (OO h1).symm,rfl⟩
 ·go_enter Tryz.func73,Tryz.ntmps73
  go_wp2
  go_ret
  exact ⟨aW (OQ h1).symm,rfl⟩
 ·go_enter Tryz.func73,Tryz.ntmps73
  go_wp2
  go_ret
  exact ⟨rfl,rfl⟩
theorem acJ (a b:ByteArray) (w:World):Sem.run Tryz.prog (callFunc 148 #[Value.string a,Value.string b]) w=Sem.run Tryz.prog (do let v←(Extern.BytealgCompare.compare #[.string a,.string b]);pure (Next.value v)) w:=by kernel_rfl
theorem agT (a b:ByteArray) (w:World):Sem.run Tryz.prog (callFunc 148 #[Value.string a,Value.string b]) w = .ok (Next.value (.int .i64 (Lib.compareBytes a.data.toList b.data.toList))) w:=by
 rw [acJ,Sem.run_bind,Lib.run_compareString];rfl
theorem VG (a b:ByteArray) (w:World):Calls Tryz.prog 112 #[.string a,.string b] w fun e w'=>e = .returned (.int .i64 (Lib.compareBytes a.data.toList b.data.toList))∧w=w':=by
 have hx:=fun w=>agT a b w
 go_enter Tryz.func112,Tryz.ntmps112
 go_wp2
 go_ret
 exact ⟨rfl,rfl⟩
theorem VH (a b:ByteArray) (w:World):Calls Tryz.prog 74 #[.string a,.string b] w fun e w'=>e = .returned (.int .i64 (Lib.compareBytes a.data.toList b.data.toList))∧w=w':=by
 go_enter Tryz.func74,Tryz.ntmps74
 go_wp2_with (go_at_call 112;refine (VG _ _ _).mono ?_;rintro e w' ⟨rfl,rfl⟩)
 go_ret
 exact ⟨rfl,rfl⟩
theorem Np {x y:Nat} (h:(bn x).size<(bn y).size):x<y:=by
 have h1:(Gi x).length<(Gi y).length:=h
 have h2:=FC (Gi x)
 have h3:256 ^ ((Gi y).length - 1)≤bv (Gi y):=Nj (BP y) (by intro e;rw [e] at h1;simp at h1)
 rw [Iz] at h2 h3
 have:256 ^ (Gi x).length≤256 ^ ((Gi y).length - 1):=Nat.pow_le_pow_right jb jb
 omega
theorem mP (s:ByteArray):(bn (nv s)).size≤s.size:=jP (FD s)
set_option maxRecDepth 100000 in
theorem OT (a b:ByteArray) (w:World) (ha:a.size≤1073741824) (hb:b.size≤1073741824) :
  Calls Tryz.prog 36 #[.string a,.string b] w fun e w'=>e = .returned (.int .i64 (kS (nv a) (nv b)))∧w=w':=by
 have ha2:=mP a
 have hb2:=mP b
 obtain ⟨x,hx⟩ : ∃ x,x=bn (nv a):=⟨_,rfl⟩
 obtain ⟨y,hy⟩ : ∃ y,y=bn (nv b):=⟨_,rfl⟩
 have n1:Calls Tryz.prog 72 #[.string a] w fun e w'=>e = .returned (.string x)∧w=w':=by rw [hx];exact aV a w (by omega)
 have n2:Calls Tryz.prog 72 #[.string b] w fun e w'=>e = .returned (.string y)∧w=w':=by rw [hy];exact aV b w (by omega)
 rw [← hx] at ha2
 rw [← hy] at hb2
 have Hx:=Lib.hid hx
 have Hy:=Lib.hid hy
 have N1:=Lib.hid n1
 have N2:=Lib.hid n2
 clear hx hy n1 n2
 by_cases hlen:x.size=y.size
 ·have hcmp:Lib.compareBytes x.data.toList y.data.toList=kS (nv a) (nv b):=by
   rw [Gn _ _ hlen]
   have e1:bv x.data.toList=nv a:=by rw [Hx.out];exact bK _
   have e2:bv y.data.toList=nv b:=by rw [Hy.out];exact bK _
   rw [e1,e2]
  have HC:=Lib.hid hcmp
  have HL:((x.size:Int) == (y.size:Int))=true:=by simp;omega
  have HL2:((x.size:Int) != (y.size:Int))=false:=by simp;omega
  clear hcmp hlen
  go_enter Tryz.func36,Tryz.ntmps36
  go_wp2_with fail
  refine N1.out.mono ?_;rintro e w' ⟨rfl,rfl⟩
  go_wp2_with fail
  refine N2.out.mono ?_;rintro e w' ⟨rfl,rfl⟩
  go_wp2_with fail
  refine (VH _ _ _).mono ?_;rintro e w' ⟨rfl,rfl⟩
  go_wp2
  go_ret
  exact ⟨aW HC.out,rfl⟩
 ·have HL2:((x.size:Int) != (y.size:Int))=true:=by simp;omega
  have hcmp:VF ((x.size:Int) - y.size)=kS (nv a) (nv b):=by
   rcases (show x.size<y.size∨y.size<x.size by omega) with h|h
   ·rw [OO (by omega)]
    rw [Hx.out,Hy.out] at h
    rw [nR (Np h)]
   ·rw [OQ (by omega)]
    rw [Hx.out,Hy.out] at h
    rw [uM (Np h)]
  have HC:=Lib.hid hcmp
  clear hcmp hlen
  go_enter Tryz.func36,Tryz.ntmps36
  go_wp2_with fail
  refine N1.out.mono ?_;rintro e w' ⟨rfl,rfl⟩
  go_wp2_with fail
  refine N2.out.mono ?_;rintro e w' ⟨rfl,rfl⟩
  go_wp2_with fail
  refine (RP _ _).mono ?_;rintro e w' ⟨rfl,rfl⟩
  go_wp2
  go_ret
  exact ⟨aW HC.out,rfl⟩
end Go.Proofs.Ins
namespace Go.Proofs.Ins
theorem qg (q:Rat):(sg q = -1∧q<0)∨(sg q=0∧q=0)∨(sg q=1∧0<q):=by
 unfold sg
 by_cases h:q=0
 ·rw [if_pos h];exact .inr (.inl ⟨rfl,h⟩)
 ·rw [if_neg h]
  by_cases h2:q<0
  ·rw [if_pos h2];exact .inl ⟨rfl,h2⟩
  ·rw [if_neg h2];exact .inr (.inr ⟨rfl,by grind⟩)
theorem VI {p q:Rat} (h:sg p<sg q):lY p q = -1:=by
 apply wX
 rcases qg p with ⟨e1,h1⟩|⟨e1,h1⟩|⟨e1,h1⟩ <;> rcases qg q with ⟨e2,h2⟩|⟨e2,h2⟩|⟨e2,h2⟩ <;> first|omega|grind
theorem VJ {p q:Rat} (h:sg q<sg p):lY p q=1:=by
 apply wY
 rcases qg p with ⟨e1,h1⟩|⟨e1,h1⟩|⟨e1,h1⟩ <;> rcases qg q with ⟨e2,h2⟩|⟨e2,h2⟩|⟨e2,h2⟩ <;> first|omega|grind
theorem acK {p q:Rat} (h:sg p=sg q):rn p=rn q:=by
 rcases qg p with ⟨e1,h1⟩|⟨e1,h1⟩|⟨e1,h1⟩ <;> rcases qg q with ⟨e2,h2⟩|⟨e2,h2⟩|⟨e2,h2⟩ <;> first
  | omega
  | rw [OJ.mpr h1,OJ.mpr h2]
  | rw [IW.mpr kf,IW.mpr kf]
theorem aal {p q:Rat} (h:sg p=sg q):lY p q=if rn p=true then -(kS (nm p*q.den) (nm q*p.den)) else kS (nm p*q.den) (nm q*p.den):=by
 have hn:=acK h
 have e1:=A8 p
 have e2:=A8 q
 have h1:=Rat.lt_iff p q
 have h2:=Rat.lt_iff q p
 rw [← e1,← e2,← hn] at h1 h2
 obtain ⟨X,hX⟩ : ∃ X,X=nm p*q.den:=⟨_,rfl⟩
 obtain ⟨Y,hY⟩ : ∃ Y,Y=nm q*p.den:=⟨_,rfl⟩
 have c1:(nm p:Int)*q.den=(X:Int):=by rw [hX,Int.natCast_mul]
 have c2:(nm q:Int)*p.den=(Y:Int):=by rw [hY,Int.natCast_mul]
 rw [← hX,← hY]
 have heq:X=Y→p=q:=fun e=>by
  rw [Rat.eq_iff_mul_eq_mul,← e1,← e2,← hn]
  unfold oM
  split
  ·rw [Int.neg_mul,Int.neg_mul,c1,c2,e]
  ·rw [c1,c2,e]
 cases hr:rn p
 ·rw [hr] at h1 h2
  simp only [oM,Bool.false_eq_true,if_false] at h1 h2 ⊢
  rw [c1,c2] at h1 h2
  rcases Nat.lt_trichotomy X Y with h3|h3|h3
  ·rw [nR h3,wX (h1.mpr jb)]
  ·rw [heq h3,wZ,h3,GY]
  ·rw [uM h3,wY (h2.mpr jb)]
 ·rw [hr] at h1 h2
  simp only [oM,if_true,Int.neg_mul] at h1 h2 ⊢
  rw [c1,c2] at h1 h2
  rcases Nat.lt_trichotomy X Y with h3|h3|h3
  ·rw [nR h3,wY (h2.mpr jb)];rfl
  ·rw [heq h3,wZ,h3,GY];rfl
  ·rw [uM h3,wX (h1.mpr jb)]
end Go.Proofs.Ins
namespace Go.Proofs.Ins
open Go.RowKit
structure R3 where
 n:Bool
 s:ByteArray
 d:ByteArray
instance:Inhabited R3:=⟨⟨false,⟨#[]⟩,⟨#[]⟩⟩⟩
def R3.c (r:R3):List Value:=[.bool r.n,.string r.s,.string r.d]
def R3.q (r:R3):Rat:=rq r.n r.s r.d
def R3.small (r:R3):Prop:=r.s.size≤24∧r.d.size≤24
instance (r:R3):Decidable r.small:=by unfold R3.small;infer_instance
def R3.fits (r:R3) (k:Nat):Prop:=r.s.size≤k∧r.d.size≤k
def uo (q:Rat):R3:=⟨rn q,rs q,rd q⟩
theorem CQ (q:Rat):(uo q).q=q:=FN q
theorem RS {q:Rat} {k:Nat} (h:Sm k q):(uo q).fits k:=⟨h.rs,h.rd⟩
structure V8 where
 p:Int
 a:R3
 k:R3
 x:Bool
instance:Inhabited V8:=⟨⟨0,default,default,false⟩⟩
def V8.c (v:V8):List Value:=[.int .i64 v.p,.bool v.a.n,.string v.a.s,.string v.a.d,.bool v.k.n,.string v.k.s,.string v.k.d,.bool v.x]
end Go.Proofs.Ins
namespace Go.Proofs.Ins
open Go Go.RowKit Go.ChangeShapes Go.WideShapes Go.Deep
section
variable {H:Type} {enc:TypeId×Value→H} {P:Program} {W:World} {sp:Nat→Bool} {held:Bool}
def Light (P:Program) (t:TypeId) (d:DataW H):Prop:=∀ n∈d.weights P t,n≤140737488351232
theorem sD {ts:List TypeId} {ds:List (DataW H)} (h:(DataW.weightsEach P ts ds).all (·≤reachBytes)=true) {j:Nat} {t:TypeId} {d:DataW H} (ht:ts[j]?=some t) (hd:ds[j]?=some d):Light P t d:=fun n hn=>by
 have:=List.all_eq_true.1 h _ (DataW.weights_mem_each ht hd n hn)
 exact of_decide_eq_true this
theorem xU {e:TypeId} : ∀ {l:List (DataW H)} {d:DataW H},d∈l→∀ n∈d.weights P e,n∈DataW.weightsAll P e l
 | d' :: r,d,hd,n,hn=>by
  simp only [DataW.weightsAll,List.mem_append]
  rcases List.mem_cons.1 hd with rfl|h
  ·exact Or.inl hn
  ·exact Or.inr (xU h n hn)
theorem VK {t e:TypeId} {l sp:List (DataW H)} {d:DataW H} (ht:P.underlying t=some (.slice e)) (h:Light P t (.slice l sp)) (hd:d∈l):Light P e d:=fun n hn=>h n (by
 simp only [DataW.weights,ht,List.mem_cons,List.mem_append]
 exact .inr (.inl (xU hd n hn)))
theorem aam {t e:TypeId} {l sp:List (DataW H)} (ht:P.underlying t=some (.slice e)) (h:Light P t (.slice l sp)) (he:0<P.bytesOf e):l.length≤140737488351232:=by
 have:=h ((l.length+sp.length)*P.bytesOf e) (by simp [DataW.weights,ht])
 have h2:=Nat.le_mul_of_pos_right (l.length+sp.length) he
 omega
theorem Ei {t e:TypeId} {fuel k:Nat} {cs:List Value} {x:DataW H×List MemPlace} (ht:P.underlying t=some (.slice e)) (hk:P.cellsOf e=k) (hk0:0<k) (he:0<P.bytesOf e) (h:DataW.trod enc P W 0 sp held fuel t cs=some x) (hL:Light P t x.1) :
  ∃ (a:Option Addr) (len cap:Nat) (C:Nat→List Value),cs=[.slice a len cap]∧len≤140737488351232∧OG W a len k C∧∀ i,i<len→(C i).length=k∧∃ n y,DataW.trod enc P W 0 sp held n e (C i)=some y∧Light P e y.1:=by
 rcases open_slice ht h with ⟨rfl,-⟩|⟨a,len,cap,m,n,D,Pl,rfl,-,hl,hm,hmm,rfl,hx⟩
 ·exact ⟨none,0,0,fun _=>[],rfl,jb,.inl rfl,fun i hi=>jb⟩
 ·have hlm:len≤m:=by rw [hmm];split <;> omega
  obtain ⟨C,hC⟩:=choose_lt (α:=List Value) (p:=fun i c=>W.cells? 0 (a.add (i*P.cellsOf e)) (P.cellsOf e)=some c∧DataW.trod enc P W 0 sp held n e c=some (D i,Pl i)) (fun i hi=>hx i hi)
  have hlen:=aam ht hL he
  rw [List.length_map,List.length_range] at hlen
  refine ⟨some a,len,cap,C,rfl,hlen,?_,fun i hi=>⟨?_,n,_,(hC i jb).2,VK ht hL (List.mem_map.2 ⟨i,by simpa using hi,rfl⟩)⟩⟩
  ·rcases Nat.eq_zero_or_pos len with h0|h0
   ·exact .inl h0
   ·obtain ⟨b,off,spot⟩:=a
    obtain ⟨_,hlen,hget⟩:=World.cells?_some (hC 0 jb).1
    have h00:=hget 0 jb
    rw [List.getElem?_eq_getElem jb] at h00
    have hspot:spot=none:=by simpa [Addr.add] using World.cell?_spot h00
    subst hspot
    have hadd : ∀ i j,((⟨b,off,none⟩:Addr).add (i*k)).add j=⟨b,off+i*k+j,none⟩:=fun i j=>by
     unfold Addr.add
     by_cases h1:i*k=0 <;> by_cases h2:j=0 <;> simp [h1,h2]
    refine .inr ⟨b,off,rfl,?_,fun i j hi hj=>?_⟩
    ·have:=block_lt_of_cell h00
     simpa [Addr.add] using this
    ·obtain ⟨_,_,hg⟩:=World.cells?_some (hC i jb).1
     have:=hg j jb
     rw [hk,hadd] at this
     exact this
  ·obtain ⟨_,hlen,_⟩:=World.cells?_some (hC i jb).1
   rw [hlen,hk]
end
section
variable {H:Type} {enc:TypeId×Value→H} {W:World} {sp:Nat→Bool} {held:Bool}
theorem nG {fuel:Nat} {cs:List Value} {x:DataW H×List MemPlace} (h:DataW.trod enc Tryz.prog W 0 sp held fuel 61 cs=some x) : ∃ m:Nat,cs=[.int .u16 (m:Int)]∧m≤65535:=by
 obtain ⟨n,rfl,-,hw⟩:=DataW.trod_int Tryz.underlying61 h
 have hw2:0≤n∧n≤65535:=by simpa [Lit.wf,IntKind.min,IntKind.max,IntKind.signed,IntKind.bits] using hw
 exact ⟨n.toNat,by rw [Int.toNat_of_nonneg hw2.1],jb⟩
end
end Go.Proofs.Ins
namespace Go.Proofs.Ins
open Go.RowKit
theorem Ej (n:Int) (h0:0≤n) (h1:n<2 ^ 32):IntKind.u32.wrap n=n:=by rw [IntKind.wrap_u32];omega
theorem Yk (a b:Nat) (ha:a<2 ^ 32) (hb:b<2 ^ 32):bits .and .u32 (a:Int) b=((a &&& b:Nat):Int):=(bits_nat .u32 32 jj Ej a b ha hb).1
theorem Yl (a b:Nat) (ha:a<2 ^ 32) (hb:b<2 ^ 32):bits .or .u32 (a:Int) b=((a ||| b:Nat):Int):=(bits_nat .u32 32 jj Ej a b ha hb).2
theorem OU (a b:Nat) (ha:a<2 ^ 32) (hb:b<2 ^ 32):bits .xor .u32 (a:Int) b=((a ^^^ b:Nat):Int):=by
 have ha' : a%2 ^ IntKind.u32.bits=a:=Nat.mod_eq_of_lt ha
 have hb' : b%2 ^ IntKind.u32.bits=b:=Nat.mod_eq_of_lt hb
 simp only [bits,BitVec.ofInt_natCast,BitVec.toNat_xor,BitVec.toNat_ofNat,ha',hb']
 have h:=Nat.xor_lt_two_pow ha hb
 exact Ej _ (Int.natCast_nonneg _) (by exact_mod_cast h)
theorem VL {a:Nat} (h:a<2 ^ 32):a >>> 31=0∨a >>> 31=1:=by
 rw [Nat.shiftRight_eq_div_pow];omega
theorem VN (x y d:Nat) (hx:x<2 ^ 32) (hy:y<2 ^ 32) (hd:d<2 ^ 32) (b:Nat) (hb:b≤1) (he:(d+y+b)%4294967296=x) :
  (((4294967295 ^^^ x) &&& y) ||| ((4294967295 ^^^ (x ^^^ y)) &&& d))/2147483648=if x<y+b then 1 else 0:=by
 have e : ∀ n,n/2147483648=n >>> 31:=fun n=>by rw [Nat.shiftRight_eq_div_pow]
 rw [e,Nat.shiftRight_or_distrib,Nat.shiftRight_and_distrib,Nat.shiftRight_and_distrib,Nat.shiftRight_xor_distrib,Nat.shiftRight_xor_distrib,Nat.shiftRight_xor_distrib]
 have m:4294967295 >>> 31=1:=by decide
 rw [m]
 have tx:=VL hx
 have ty:=VL hy
 have td:=VL hd
 have fx:x >>> 31=x/2147483648:=(e x).symm
 have fy:y >>> 31=y/2147483648:=(e y).symm
 have fd:d >>> 31=d/2147483648:=(e d).symm
 rcases tx with tx|tx <;> rcases ty with ty|ty <;> rcases td with td|td <;> rw [tx,ty,td] <;> simp <;> omega
theorem VO (x y b:Int) (hx0:0≤x) (hx:x≤4294967295) (hy0:0≤y) (hy:y≤4294967295) (hb0:0≤b) (hb:b≤1) :
  bits BinOp.or .u32 (bits BinOp.and .u32 (bits BinOp.xor .u32 IntKind.u32.max x) y) (bits BinOp.and .u32 (bits BinOp.xor .u32 IntKind.u32.max (bits BinOp.xor .u32 x y)) ((x - y - b)%4294967296))/2147483648
   = if x<y+b then 1 else 0:=by
 obtain ⟨x,rfl⟩:=Int.eq_ofNat_of_zero_le hx0
 obtain ⟨y,rfl⟩:=Int.eq_ofNat_of_zero_le hy0
 obtain ⟨b,rfl⟩:=Int.eq_ofNat_of_zero_le hb0
 obtain ⟨d,hd⟩:=Int.eq_ofNat_of_zero_le (show 0≤((x:Int) - y - b)%4294967296 by omega)
 have hd2:d<2 ^ 32:=by omega
 have hm:IntKind.u32.max=((4294967295:Nat):Int):=by decide
 rw [hd,hm]
 have h1:(4294967295 ^^^ x)<2 ^ 32:=Nat.xor_lt_two_pow (by decide) (by omega)
 have h2:(x ^^^ y)<2 ^ 32:=Nat.xor_lt_two_pow (by omega) (by omega)
 have h3:(4294967295 ^^^ (x ^^^ y))<2 ^ 32:=Nat.xor_lt_two_pow (by decide) h2
 rw [OU _ x (by decide) (by omega),OU x y (by omega) (by omega),OU _ _ (by decide) h2,Yk _ _ h1 (by omega),Yk _ _ h3 hd2,
  Yl _ _ (Nat.and_lt_two_pow _ (by omega)) (Nat.and_lt_two_pow _ hd2)]
 have h4:=VN x y d (by omega) (by omega) hd2 b (by omega) (by omega)
 have h5:((2147483648:Int))=((2147483648:Nat):Int):=rfl
 rw [h5,← Int.natCast_ediv,h4]
 split <;> split <;> omega
def brw (x y b:Int):Int:=if x<y+b then 1 else 0
theorem vZ (x y b:Int) (w:World) (hx0:0≤x) (hx:x≤4294967295) (hy0:0≤y) (hy:y≤4294967295) (hb0:0≤b) (hb:b≤1) :
  Calls Tryz.prog 149 #[.int .u32 x,.int .u32 y,.int .u32 b] w fun e w'=>e = .returned (.tuple #[.int .u32 ((x - y - b)%4294967296),.int .u32 (brw x y b)])∧w=w':=by
 have H:=jx (VO x y b hx0 hx hy0 hy hb0 hb)
 go_enter Tryz.func149,Tryz.ntmps149
 go_wp2
 go_ret2
 refine ⟨?_,rfl⟩
 unfold brw
 rw [← H.out];rfl
theorem wu (x y c:Int) (w:World) (hx0:0≤x) (hx:x≤4294967295) (hy0:0≤y) (hy:y≤4294967295) (hb0:0≤c) (hb:c≤1) :
  Calls Tryz.prog 114 #[.int .u32 x,.int .u32 y,.int .u32 c] w fun e w'=>e = .returned (.tuple #[.int .u32 ((x+y+c)%4294967296),.int .u32 ((x+y+c)/4294967296)])∧w=w':=by
 go_enter Tryz.func114,Tryz.ntmps114
 go_wp2
 go_ret2
 exact ⟨rfl,rfl⟩
theorem RU (a b:Option Addr) (la lb ca cb:Nat) (w:World) (h:la≠lb) (h1:la≤4294967296) (h2:lb≤4294967296) :
  Calls Tryz.prog 115 #[.slice a la ca,.slice b lb cb] w fun e w'=>e = .returned (.int .i64 (VF ((la:Int) - lb)))∧w=w':=by
 have HL2:((la:Int) != (lb:Int))=true:=by simp;omega
 clear h
 go_enter Tryz.func115,Tryz.ntmps115
 go_wp2_with (go_at_call 73;refine (RP _ _).mono ?_;rintro e w' ⟨rfl,rfl⟩)
 go_ret
 exact ⟨rfl,rfl⟩
theorem OV (a b:Option Addr) (ca cb:Nat) (w:World) :
  Calls Tryz.prog 115 #[.slice a 0 ca,.slice b 0 cb] w fun e w'=>e = .returned (.int .i64 0)∧w=w':=by
 go_enter Tryz.func115,Tryz.ntmps115
 go_wp2
 go_loop [5] (fun v=>v = .int .i64 (-1)) (fun _=>0)
 case atStart=>exact rfl
 case round =>
  subst hrel
  go_wp2
  go_ret
  exact ⟨rfl,rfl⟩
set_option maxRecDepth 100000 in
theorem OW (b1 o1 b2 o2 n c1 c2:Nat) (f g:Nat→Nat) (w:World) (hn:n≤4294967296) (hn0:0<n) (hf:Reads w b1 o1 .u32 n f) (hg:Reads w b2 o2 .u32 n g)
  (lf : ∀ j,j<n→f j<LB) (lg : ∀ j,j<n→g j<LB) :
  Calls Tryz.prog 115 #[.slice (some ⟨b1,o1,none⟩) n c1,.slice (some ⟨b2,o2,none⟩) n c2] w fun e w'=>e = .returned (.int .i64 (kS (lv f n) (lv g n)))∧Below w.heap.size w w':=by
 have Hlf:=Lib.hid lf
 have Hlg:=Lib.hid lg
 have Hf:=Lib.hid hf
 have Hg:=Lib.hid hg
 clear lf lg hf hg
 go_enter Tryz.func115,Tryz.ntmps115
 go_wp2
 go_loopw [5] (fun v wr=>∃ i:Int,v = .int .i64 i∧-1≤i∧i<n∧Hid (∀ j:Nat,i<j→j<n→f j=g j)∧∃ q,wr=w.drewN q) (fun v _=>(intOf v+1).toNat)
 case atStart=>exact ⟨(n:Int) - 1,rfl,by omega,by omega,fun j h1 h2=>by omega,0,rfl⟩
 case round =>
  obtain ⟨i,rfl,hi1,hi2,hall,q,rfl⟩:=hrel
  by_cases h0:i = -1
  ·subst h0
   have he:lv f n=lv g n:=lX fun j hj=>hall.out j (by omega) hj
   have HE:=Lib.hid he
   clear he
   go_wp2
   go_ret
   exact ⟨aW (by rw [HE.out,GY]),below_drewN (Below.refl _ _) q⟩
  ·obtain ⟨m,rfl⟩:=Int.eq_ofNat_of_zero_le (show 0≤i by omega)
   have hm:(m:Int)<n:=hi2
   have hc1:=Hf.out m (by omega)
   have hc2:=Hg.out m (by omega)
   rcases (show f m<g m∨g m<f m∨f m=g m by omega) with h|h|h
   ·have t1:((f m:Int) != (g m:Int))=true:=by simp;omega
    have t2:((f m:Int)<(g m:Int)):=by omega
    have HR:=Lib.hid (qZ Hlf.out Hlg.out (show m<n by omega) (fun j h1 h2=>hall.out j (by omega) h2) h)
    go_wp2
    go_quiet (fail)
    go_wp2
    go_quiet (fail)
    go_wp2
    go_ret
    exact ⟨aW (nR HR.out).symm,below_drewN (below_drewN (below_drewN (Below.refl _ _) _) _) _⟩
   ·have t1:((f m:Int) != (g m:Int))=true:=by simp;omega
    have t2:decide ((f m:Int)<(g m:Int))=false:=by simp;omega
    have HR:=Lib.hid (qZ Hlg.out Hlf.out (show m<n by omega) (fun j h1 h2=>(hall.out j (by omega) h2).symm) h)
    go_wp2
    go_quiet (fail)
    go_wp2
    go_quiet (fail)
    go_wp2
    go_ret
    exact ⟨aW (uM HR.out).symm,below_drewN (below_drewN (below_drewN (Below.refl _ _) _) _) _⟩
   ·rw [h] at hc1
    have H:=Lib.hid h
    clear h
    go_wp2
    go_quiet (fail)
    go_wp2
    go_roundw
    case rel=>exact ⟨(m:Int) - 1,rfl,by omega,by omega,fun j h1 h2=>by
     by_cases e:j=m
     ·subst e;exact H.out
     ·exact hall.out j (by omega) h2,_,rfl⟩
    case measure=>simp [intOf]
theorem uN (a b:Option Addr) (la lb ca cb x y:Nat) (w:World) (h1:Limbs w a la x) (h2:Limbs w b lb y) (l1:la≤4294967296) (l2:lb≤4294967296) :
  Calls Tryz.prog 115 #[.slice a la ca,.slice b lb cb] w fun e w'=>e = .returned (.int .i64 (kS x y))∧Below w.heap.size w w':=by
 obtain ⟨f,rfl,hf,rf⟩:=h1
 obtain ⟨g,rfl,hg,rg⟩:=h2
 by_cases h:la=lb
 ·subst h
  by_cases h0:la=0
  ·subst h0
   exact (OV a b ca cb w).mono fun e w' ⟨he,hw⟩=>⟨he,hw ▸ Below.refl _ _⟩
  ·rcases rf with rf|⟨b1,o1,rfl,r1⟩
   ·exact absurd rf h0
   rcases rg with rg|⟨b2,o2,rfl,r2⟩
   ·exact absurd rg h0
   exact OW b1 o1 b2 o2 la ca cb f g w l1 (by omega) r1 r2 hf.1 hg.1
 ·refine (RU a b la lb ca cb w h l1 l2).mono fun e w' ⟨he,hw⟩=>⟨he.trans (aW ?_),hw ▸ Below.refl _ _⟩
  rcases (show la<lb∨lb<la by omega) with c|c
  ·rw [OO (by omega),nR (hf.Ee hg c)]
  ·rw [OQ (by omega),uM (hg.Ee hf c)]
theorem G8 (f:Nat→Nat) (k v:Nat) (hv:v=f k) (j:Nat):upd (ext f k) k v j=ext f (k+1) j:=by
 by_cases e:j=k
 ·subst e;rw [upd_same,nN jb,hv]
 ·rw [bI _ _ _ e]
  by_cases h:j<k
  ·rw [nN h,nN jb]
  ·rw [jg jb,jg jb]
theorem Limbs.pU {w:World} {a:Option Addr} {len:Nat} {s:ByteArray} (h:Limbs w a len (nv s)):4*len≤s.size+3:=by
 have h1:=FD s
 have h2:nv s<LB ^ ((s.size+3)/4):=by
  rw [Eh]
  exact Nat.lt_of_lt_of_le h1 (Nat.pow_le_pow_right jb jb)
 have:=h.AZ h2
 omega
def Em (w:World) (a:Option Addr) (len x:Nat) (f:Nat→Nat):Prop:=lv f len=x∧Can f len∧(len=0∨∃ b off,a=some ⟨b,off,none⟩∧Reads w b off .u32 len f)
theorem G9 {F G' C:Nat} {f g:Nat→Nat} {k lx:Nat} {w2 wr:World} {T:TypeId}
  (hd:Vz f g k=(F+G' + C)%LB) (hs:Az f g (k+1)=(F+G' + C)/LB) (hrow:Row wr w2.heap.size T .u32 (lx+1) (ext (Vz f g) k)) (hbel:Below w2.heap.size w2 wr) (hk:k<lx) :
  ∃ k' : Nat,Value.int .i64 ((k:Int)+1) = .int .i64 k'∧k'≤lx∧Value.int .u32 (((F:Int)+(G' : Nat)+C)/4294967296) = .int .u32 (Az f g k') ∧
   Row (wr.setCell ⟨w2.heap.size,k,none⟩ (.int .u32 (((F:Int)+(G' : Nat)+C)%4294967296))) w2.heap.size T .u32 (lx+1) (ext (Vz f g) k') ∧
   Below w2.heap.size w2 (wr.setCell ⟨w2.heap.size,k,none⟩ (.int .u32 (((F:Int)+(G' : Nat)+C)%4294967296))):=by
 rw [yA] at hd hs
 refine ⟨k+1,by go_num,jb,?_,?_,hbel.setCell jp _⟩
 ·rw [hs];congr 1
 ·have e1:(((F:Int)+(G' : Nat)+C)%4294967296)=((Vz f g k:Nat):Int):=by rw [hd];omega
  rw [e1]
  exact (hrow.set k _).congr fun j _=>G8 _ k _ rfl j
theorem add_any (a b:ByteArray) (w:World) (ha:a.size≤1073741824) (hb:b.size≤1073741824) :
  Calls Tryz.prog 77 #[.string a,.string b] w fun e w'=>e = .returned (.string (bn (nv a+nv b)))∧Below w.heap.size w w':=by
 go_enter Tryz.func77,Tryz.ntmps77
 go_wp2_with fail
 refine (parse_any a _ ha).mono ?_;rintro e w1 ⟨ax,lx,cx,rfl,lcx,ccx,hX1,hb1⟩
 go_wp2_with fail
 refine (parse_any b _ hb).mono ?_;rintro e w2 ⟨ay,ly,cy,rfl,lcy,ccy,hY,hb2⟩
 have hX:=hX1.below hb2 jp
 have hll:=hX.pU
 have hlm:=hY.pU
 obtain ⟨fx,hX⟩:=hX
 obtain ⟨fy,hY⟩:=hY
 have HX:Hid (Em w2 ax lx (nv a) fx):=hX
 have HY:Hid (Em w2 ay ly (nv b) fy):=hY
 clear hX hY hX1
 by_cases hsw:lx<ly
 ·have arw : decide ((lx:Int)<(ly:Int))=true:=by simp;omega
  go_wp2_with (refine eX _ _ 136 138 .u32 4 (ly+1) _ rfl rfl Tryz.underlying136 nP rfl rfl jb jb jb ?_;intro w3 hr3 hb3 hz3)
  go_loopw [8,9,10,28] (fun c _ _ i wr=>∃ k:Nat,i = .int .i64 k∧k≤ly∧c = .int .u32 (Az (ext fy ly) (ext fx lx) k)∧Row wr w2.heap.size 138 .u32 (ly+1) (ext (Vz (ext fy ly) (ext fx lx)) k)∧Below w2.heap.size w2 wr) (fun _ _ _ i _=>ly - (intOf i).toNat)
  case atStart=>exact ⟨0,rfl,jb,rfl,hr3.congr (fun j _=>by rw [jg jb]),hb3⟩
  case round =>
   obtain ⟨k,rfl,hk,rfl,hrow,hbel⟩:=hrel
   clear hr3 hb3 hz3
   have c0:=acz (kR HY.out.2.1.1) (kR HX.out.2.1.1) k
   have fk:=kR HY.out.2.1.1 k
   have gk:=kR HX.out.2.1.1 k
   have hs:=jx (BU (ext fy ly) (ext fx lx) k)
   have hd:Hid (Vz (ext fy ly) (ext fx lx) k=(ext fy ly k+ext fx lx k+Az (ext fy ly) (ext fx lx) k)%LB):=rfl
   rw [yA] at fk gk
   have q0:(0:Int)≤(Az (ext fy ly) (ext fx lx) k:Int):=jb
   have q1:(Az (ext fy ly) (ext fx lx) k:Int)≤1:=jb
   by_cases hlt:k<ly
   ·rcases HY.out.2.2 with h0|⟨b1,o1,rfl,r1⟩
    ·omega
    have hcx:=(r1.below hbel (by have:=r1.lt jb;omega)) k hlt
    rw [← nN (f:=fy) hlt] at hcx
    have hold:=hrow.cell (j:=k) jb
    have hfr:=hrow.frozen k
    rw [jg (Nat.le_refl k)] at hold
    have f0:(0:Int)≤(ext fy ly k:Int):=jb
    have f1:(ext fy ly k:Int)≤4294967295:=jb
    have g0:(0:Int)≤(ext fx lx k:Int):=jb
    have g1:(ext fx lx k:Int)≤4294967295:=jb
    generalize hC:Az (ext fy ly) (ext fx lx) k=C at *
    generalize hF:ext fy ly k=F at *
    have HC:=jx hC
    have HF:=jx hF
    clear hC hF
    by_cases hlt2:k<lx
    ·rcases HX.out.2.2 with h0|⟨b2,o2,rfl,r2⟩
     ·omega
     have hcy:=(r2.below hbel (by have:=r2.lt jb;omega)) k hlt2
     rw [← nN (f:=fx) hlt2] at hcy
     generalize hG:ext fx lx k=G at *
     have HG:=jx hG
     clear hG
     go_wp2_with (go_at_call 114;refine (wu _ _ _ _ f0 f1 g0 g1 q0 q1).mono ?_;rintro e w' ⟨rfl,rfl⟩)
     go_roundw
     case rel=>exact G9 hd.out hs.out hrow hbel hlt
     case measure=>simp [intOf];omega
    ·have hG0:ext fx lx k=0:=jg jb
     have hnn:decide ((k:Int)<(lx:Int))=false:=by simp;omega
     rw [hG0] at hd hs g0 g1
     have HG:=jx hG0
     clear hG0
     go_wp2_with (go_at_call 114;refine (wu _ _ _ _ f0 f1 jb jb q0 q1).mono ?_;rintro e w' ⟨rfl,rfl⟩)
     go_roundw
     case rel=>exact G9 (G':=0) hd.out hs.out hrow hbel hlt
     case measure=>simp [intOf];omega
   ·obtain rfl:k=ly:=jb
    have hold:=hrow.cell (j:=k) jb
    have hfr:=hrow.frozen k
    rw [jg (Nat.le_refl k)] at hold
    have hfin:lv (upd (ext (Vz (ext fy k) (ext fx lx)) k) k (Az (ext fy k) (ext fx lx) k)) (k+1)=nv a+nv b:=by
     rw [Nat.add_comm (nv a)]
     rw [bP,rZ _ (Nat.le_refl k),upd_same,sS (Nat.le_refl k),acA,sS (Nat.le_refl k),sS jb,HY.out.1,HX.out.1]
    have hlim : ∀ j,j<k+1→upd (ext (Vz (ext fy k) (ext fx lx)) k) k (Az (ext fy k) (ext fx lx) k) j<LB:=by
     intro j hj
     by_cases e:j=k
     ·subst e;rw [upd_same];unfold LB;omega
     ·rw [bI _ _ _ e];exact kR (fun j _=>Nat.mod_lt _ iU) j
    have hrow2:=hrow.set k (Az (ext fy k) (ext fx lx) k)
    have hb3:Below w.heap.size w (wr.setCell ⟨w2.heap.size,k,none⟩ (.int .u32 (Az (ext fy k) (ext fx lx) k))) :=
     (hb1.trans (hb2.mono hb1.size)).trans ((hbel.mono (Nat.le_trans hb1.size hb2.size)).setCell (by have:=hb1.size;have:=hb2.size;simp;omega) _)
    have HR:=jx hrow2
    have HB:=jx hb3
    have HF:=jx hfin
    have HL:=jx hlim
    clear hrow2 hb3 hfin hlim hrow hs hd
    go_wp2_with fail
    refine (vY w2.heap.size 0 (k+1) (k+1) _ _ jb jb HR.out.reads HL.out).mono ?_
    rintro e w' ⟨rfl,hbt⟩
    rw [HF.out]
    go_wp2
    go_ret
    exact ⟨rfl,HB.out.trans (hbt.mono HB.out.size)⟩
 ·have arw : decide ((lx:Int)<(ly:Int))=false:=by simp;omega
  go_wp2_with (refine eX _ _ 136 138 .u32 4 (lx+1) _ rfl rfl Tryz.underlying136 nP rfl rfl jb jb jb ?_;intro w3 hr3 hb3 hz3)
  go_loopw [8,9,10,28] (fun c _ _ i wr=>∃ k:Nat,i = .int .i64 k∧k≤lx∧c = .int .u32 (Az (ext fx lx) (ext fy ly) k)∧Row wr w2.heap.size 138 .u32 (lx+1) (ext (Vz (ext fx lx) (ext fy ly)) k)∧Below w2.heap.size w2 wr) (fun _ _ _ i _=>lx - (intOf i).toNat)
  case atStart=>exact ⟨0,rfl,jb,rfl,hr3.congr (fun j _=>by rw [jg jb]),hb3⟩
  case round =>
   obtain ⟨k,rfl,hk,rfl,hrow,hbel⟩:=hrel
   clear hr3 hb3 hz3
   have c0:=acz (kR HX.out.2.1.1) (kR HY.out.2.1.1) k
   have fk:=kR HX.out.2.1.1 k
   have gk:=kR HY.out.2.1.1 k
   have hs:=jx (BU (ext fx lx) (ext fy ly) k)
   have hd:Hid (Vz (ext fx lx) (ext fy ly) k=(ext fx lx k+ext fy ly k+Az (ext fx lx) (ext fy ly) k)%LB):=rfl
   rw [yA] at fk gk
   have q0:(0:Int)≤(Az (ext fx lx) (ext fy ly) k:Int):=jb
   have q1:(Az (ext fx lx) (ext fy ly) k:Int)≤1:=jb
   by_cases hlt:k<lx
   ·rcases HX.out.2.2 with h0|⟨b1,o1,rfl,r1⟩
    ·omega
    have hcx:=(r1.below hbel (by have:=r1.lt jb;omega)) k hlt
    rw [← nN (f:=fx) hlt] at hcx
    have hold:=hrow.cell (j:=k) jb
    have hfr:=hrow.frozen k
    rw [jg (Nat.le_refl k)] at hold
    have f0:(0:Int)≤(ext fx lx k:Int):=jb
    have f1:(ext fx lx k:Int)≤4294967295:=jb
    have g0:(0:Int)≤(ext fy ly k:Int):=jb
    have g1:(ext fy ly k:Int)≤4294967295:=jb
    generalize hC:Az (ext fx lx) (ext fy ly) k=C at *
    generalize hF:ext fx lx k=F at *
    have HC:=jx hC
    have HF:=jx hF
    clear hC hF
    by_cases hlt2:k<ly
    ·rcases HY.out.2.2 with h0|⟨b2,o2,rfl,r2⟩
     ·omega
     have hcy:=(r2.below hbel (by have:=r2.lt jb;omega)) k hlt2
     rw [← nN (f:=fy) hlt2] at hcy
     generalize hG:ext fy ly k=G at *
     have HG:=jx hG
     clear hG
     go_wp2_with (go_at_call 114;refine (wu _ _ _ _ f0 f1 g0 g1 q0 q1).mono ?_;rintro e w' ⟨rfl,rfl⟩)
     go_roundw
     case rel=>exact G9 hd.out hs.out hrow hbel hlt
     case measure=>simp [intOf];omega
    ·have hG0:ext fy ly k=0:=jg jb
     have hnn:decide ((k:Int)<(ly:Int))=false:=by simp;omega
     rw [hG0] at hd hs g0 g1
     have HG:=jx hG0
     clear hG0
     go_wp2_with (go_at_call 114;refine (wu _ _ _ _ f0 f1 jb jb q0 q1).mono ?_;rintro e w' ⟨rfl,rfl⟩)
     go_roundw
     case rel=>exact G9 (G':=0) hd.out hs.out hrow hbel hlt
     case measure=>simp [intOf];omega
   ·obtain rfl:k=lx:=jb
    have hold:=hrow.cell (j:=k) jb
    have hfr:=hrow.frozen k
    rw [jg (Nat.le_refl k)] at hold
    have hfin:lv (upd (ext (Vz (ext fx k) (ext fy ly)) k) k (Az (ext fx k) (ext fy ly) k)) (k+1)=nv a+nv b:=by
     rw [bP,rZ _ (Nat.le_refl k),upd_same,sS (Nat.le_refl k),acA,sS (Nat.le_refl k),sS jb,HX.out.1,HY.out.1]
    have hlim : ∀ j,j<k+1→upd (ext (Vz (ext fx k) (ext fy ly)) k) k (Az (ext fx k) (ext fy ly) k) j<LB:=by
     intro j hj
     by_cases e:j=k
     ·subst e;rw [upd_same];unfold LB;omega
     ·rw [bI _ _ _ e];exact kR (fun j _=>Nat.mod_lt _ iU) j
    have hrow2:=hrow.set k (Az (ext fx k) (ext fy ly) k)
    have hb3:Below w.heap.size w (wr.setCell ⟨w2.heap.size,k,none⟩ (.int .u32 (Az (ext fx k) (ext fy ly) k))) :=
     (hb1.trans (hb2.mono hb1.size)).trans ((hbel.mono (Nat.le_trans hb1.size hb2.size)).setCell (by have:=hb1.size;have:=hb2.size;simp;omega) _)
    have HR:=jx hrow2
    have HB:=jx hb3
    have HF:=jx hfin
    have HL:=jx hlim
    clear hrow2 hb3 hfin hlim hrow hs hd
    go_wp2_with fail
    refine (vY w2.heap.size 0 (k+1) (k+1) _ _ jb jb HR.out.reads HL.out).mono ?_
    rintro e w' ⟨rfl,hbt⟩
    rw [HF.out]
    go_wp2
    go_ret
    exact ⟨rfl,HB.out.trans (hbt.mono HB.out.size)⟩
theorem IZ (s:ByteArray):nv s<LB ^ ((s.size+3)/4):=by
 rw [Eh]
 exact Nat.lt_of_lt_of_le (FD s) (Nat.pow_le_pow_right jb jb)
theorem Ym {F G C:Nat} {f g:Nat→Nat} {k lx:Nat} {w2 wr:World} {T:TypeId}
  (hF:f k=F) (hG:g k=G) (hC:IB f g k=C) (lF:F<LB) (lG:G<LB) (hrow:Row wr w2.heap.size T .u32 lx (ext (ddg f g) k)) (hbel:Below w2.heap.size w2 wr) (hk:k<lx) :
  ∃ k' : Nat,Value.int .i64 ((k:Int)+1) = .int .i64 k'∧k'≤lx∧Value.int .u32 (brw F (G:Nat) C) = .int .u32 (IB f g k') ∧
   Row (wr.setCell ⟨w2.heap.size,k,none⟩ (.int .u32 (((F:Int) - (G:Nat) - C)%4294967296))) w2.heap.size T .u32 lx (ext (ddg f g) k') ∧
   Below w2.heap.size w2 (wr.setCell ⟨w2.heap.size,k,none⟩ (.int .u32 (((F:Int) - (G:Nat) - C)%4294967296))):=by
 have hd:=VA (f:=f) (g:=g) (k:=k) (by omega) (by omega)
 have hb:=OD f g k
 have hs:=IC f g k
 rw [hF,hG,hC] at hs hd
 rw [hC] at hb
 refine ⟨k+1,by go_num,by omega,?_,?_,hbel.setCell (Nat.le_refl _) _⟩
 ·congr 1
  rw [hs];unfold brw
  by_cases c:F<G+C
  ·rw [if_pos c,if_pos (by omega)];rfl
  ·rw [if_neg c,if_neg (by omega)];rfl
 ·have e1:(((F:Int) - (G:Nat) - C)%4294967296)=((ddg f g k:Nat):Int):=by
   have h1:=hd.1
   have h2:=hd.2
   have h3:=OD f g (k+1)
   unfold LB at *
   rcases (show IB f g (k+1)=0∨IB f g (k+1)=1 by omega) with c|c <;> rw [c] at h1 <;> omega
  rw [e1]
  exact (hrow.set k _).congr fun j _=>G8 _ k _ rfl j
set_option maxRecDepth 100000 in
theorem OX (ax ay:Option Addr) (lx ly cx cy x y:Nat) (w:World) (hX:Limbs w ax lx x) (hY:Limbs w ay ly y) (hle:y≤x) (hl:lx≤1073741824) :
  Calls Tryz.prog 116 #[.slice ax lx cx,.slice ay ly cy] w (dX w (x - y)):=by
 obtain ⟨fx,hX⟩:=hX
 obtain ⟨fy,hY⟩:=hY
 have HX:Hid (Em w ax lx x fx):=hX
 have HY:Hid (Em w ay ly y fy):=hY
 clear hX hY
 have hly:ly≤lx:=by
  rcases Nat.lt_or_ge lx ly with h|h
  ·have:=HX.out.2.1.Ee HY.out.2.1 h
   rw [HX.out.1,HY.out.1] at this;omega
  ·exact h
 go_enter Tryz.func116,Tryz.ntmps116
 go_wp2_with (refine eX _ _ 136 138 .u32 4 lx _ rfl rfl Tryz.underlying136 nP rfl rfl (by omega) (by omega) (by omega) ?_;intro w3 hr3 hb3 hz3)
 go_loopw [6,7,8,14] (fun c _ _ i wr=>∃ k:Nat,i = .int .i64 k∧k≤lx∧c = .int .u32 (IB (ext fx lx) (ext fy ly) k)∧Row wr w.heap.size 138 .u32 lx (ext (ddg (ext fx lx) (ext fy ly)) k)∧Below w.heap.size w wr) (fun _ _ _ i _=>lx - (intOf i).toNat)
 case atStart=>exact ⟨0,rfl,by omega,rfl,hr3.congr (fun j _=>by rw [jg (by omega)]),hb3⟩
 case round =>
  obtain ⟨k,rfl,hk,rfl,hrow,hbel⟩:=hrel
  clear hr3 hb3 hz3
  have c0:=OD (ext fx lx) (ext fy ly) k
  have fk':=kR HX.out.2.1.1 k
  have gk':=kR HY.out.2.1.1 k
  have FK:=Lib.hid fk'
  have GK:=Lib.hid gk'
  have fk:=fk'
  have gk:=gk'
  rw [yA] at fk gk
  clear fk' gk'
  have q0:(0:Int)≤(IB (ext fx lx) (ext fy ly) k:Int):=by omega
  have q1:(IB (ext fx lx) (ext fy ly) k:Int)≤1:=by omega
  by_cases hlt:k<lx
  ·rcases HX.out.2.2 with h0|⟨b1,o1,rfl,r1⟩
   ·omega
   have hcx:=(r1.below hbel (r1.lt (by omega))) k hlt
   rw [← nN (f:=fx) hlt] at hcx
   have hold:=hrow.cell (j:=k) (by omega)
   have hfr:=hrow.frozen k
   rw [jg (Nat.le_refl k)] at hold
   have f0:(0:Int)≤(ext fx lx k:Int):=by omega
   have f1:(ext fx lx k:Int)≤4294967295:=by omega
   have g0:(0:Int)≤(ext fy ly k:Int):=by omega
   have g1:(ext fy ly k:Int)≤4294967295:=by omega
   generalize hC:IB (ext fx lx) (ext fy ly) k=C at *
   generalize hF:ext fx lx k=F at *
   have HC:=Lib.hid hC
   have HF:=Lib.hid hF
   clear hC hF
   by_cases hlt2:k<ly
   ·rcases HY.out.2.2 with h0|⟨b2,o2,rfl,r2⟩
    ·omega
    have hcy:=(r2.below hbel (r2.lt (by omega))) k hlt2
    rw [← nN (f:=fy) hlt2] at hcy
    generalize hG:ext fy ly k=G at *
    have HG:=Lib.hid hG
    clear hG
    go_wp2_with (go_at_call 149;refine (vZ _ _ _ _ f0 f1 g0 g1 q0 q1).mono ?_;rintro e w' ⟨rfl,rfl⟩)
    go_roundw
    case rel=>exact Ym HF.out HG.out HC.out FK.out GK.out hrow hbel hlt
    case measure=>simp [intOf];omega
   ·have hG0:ext fy ly k=0:=jg (by omega)
    have hnn:decide ((k:Int)<(ly:Int))=false:=by simp;omega
    rw [hG0] at g0 g1 GK
    have HG:=Lib.hid hG0
    clear hG0
    go_wp2_with (go_at_call 149;refine (vZ _ _ _ _ f0 f1 (by omega) (by omega) q0 q1).mono ?_;rintro e w' ⟨rfl,rfl⟩)
    go_roundw
    case rel=>exact Ym (G:=0) HF.out HG.out HC.out FK.out GK.out hrow hbel hlt
    case measure=>simp [intOf];omega
  ·obtain rfl:k=lx:=by omega
   have hs:=akS (f:=ext fx k) (g:=ext fy ly) (k:=k) (fun j _=>kR HX.out.2.1.1 j) (fun j _=>kR HY.out.2.1.1 j)
   have hlim : ∀ j,j<k→ext (ddg (ext fx k) (ext fy ly)) k j<LB:=fun j hj=>by
    rw [nN hj];exact (VA (kR HX.out.2.1.1 j) (kR HY.out.2.1.1 j)).2
   have hfin:lv (ext (ddg (ext fx k) (ext fy ly)) k) k=x - y:=by
    have hlt:=yB hlim
    have e0:=sS (f:=ddg (ext fx k) (ext fy ly)) (Nat.le_refl k)
    rw [e0] at hlt ⊢
    rw [sS (f:=fx) (Nat.le_refl k),sS hly,HX.out.1,HY.out.1] at hs
    rcases (show IB (ext fx k) (ext fy ly) k=0∨IB (ext fx k) (ext fy ly) k=1 by omega) with c|c
    ·rw [c] at hs;omega
    ·rw [c] at hs;omega
   have HF:=Lib.hid hfin
   have HL:=Lib.hid hlim
   have HR:=Lib.hid hrow
   clear hfin hlim hs hrow
   go_wp2_with fail
   refine (yE w w.heap.size k 138 _ _ (by omega) HR.out HL.out hbel).mono ?_
   rintro e w' ⟨a,len,cap,rfl,h1,h2,h3,h4⟩
   rw [HF.out] at h3
   go_wp2
   go_ret
   exact ⟨a,len,cap,rfl,h1,h2,h3,h4⟩
def OY (x y:Nat):Value:=if x<y then .tuple #[.string (bn 0),.bool false] else .tuple #[.string (bn (x - y)),.bool true]
theorem He {x y:Nat} (h:x<y):OY x y = .tuple #[.string (bn 0),.bool false]:=by unfold OY;rw [if_pos h]
theorem wz {x y:Nat} (h:y≤x):OY x y = .tuple #[.string (bn (x - y)),.bool true]:=by unfold OY;rw [if_neg jb]
theorem vG (a b:ByteArray) (w:World) (ha:a.size≤1073741824) (hb:b.size≤1073741824) :
  Calls Tryz.prog 78 #[.string a,.string b] w fun e w'=>e = .returned (OY (nv a) (nv b))∧Below w.heap.size w w':=by
 go_enter Tryz.func78,Tryz.ntmps78
 go_wp2_with fail
 refine (parse_any a _ ha).mono ?_;rintro e w1 ⟨ax,lx,cx,rfl,lcx,ccx,hX1,hb1⟩
 go_wp2_with fail
 refine (parse_any b _ hb).mono ?_;rintro e w2 ⟨ay,ly,cy,rfl,lcy,ccy,hY,hb2⟩
 have hX:=hX1.below hb2 jp
 have hll:=hX.pU
 have hlm:=hY.pU
 have HX:=jx hX
 have HY:=jx hY
 clear hX hY hX1
 go_wp2_with fail
 refine (uN _ _ _ _ _ _ _ _ _ HX.out HY.out jb jb).mono ?_
 rintro e w3 ⟨rfl,hb3⟩
 have HX3:=jx (HX.out.below hb3 jp)
 have HY3:=jx (HY.out.below hb3 jp)
 have VP:Below w.heap.size w w3:=hb1.trans ((hb2.mono hb1.size).trans (hb3.mono (Nat.le_trans hb1.size hb2.size)))
 clear HX HY hb1 hb2 hb3
 by_cases hc:nv a<nv b
 ·have h1:decide (kS (nv a) (nv b)<0)=true:=by rw [nR hc];rfl
  have HN:=jx (He hc)
  clear hc
  go_wp2
  go_ret2
  exact ⟨by rw [HN.out];rfl,VP⟩
 ·have h1:decide (kS (nv a) (nv b)<0)=false:=by
   unfold kS;rw [if_neg hc];split <;> rfl
  have hle:nv b≤nv a:=jb
  have HN:=jx (wz hle)
  have HLE:=jx hle
  clear hc hle
  go_wp2_with fail
  refine (OX _ _ _ _ _ _ _ _ _ HX3.out HY3.out HLE.out jb).mono ?_
  rintro e w4 ⟨ar,lr,cr,rfl,h2,h3,h4,h5⟩
  have h6:lr≤(a.size+3)/4:=h4.AZ (Nat.lt_of_le_of_lt (Nat.sub_le _ _) (IZ a))
  go_wp2_with fail
  refine (CP _ _ _ _ _ h4 jb h2).mono ?_
  rintro e w5 ⟨rfl,h7⟩
  go_wp2
  go_ret2
  exact ⟨by rw [HN.out];rfl,VP.trans ((h5.mono VP.size).trans (h7.mono (Nat.le_trans VP.size h5.size)))⟩
end Go.Proofs.Ins
