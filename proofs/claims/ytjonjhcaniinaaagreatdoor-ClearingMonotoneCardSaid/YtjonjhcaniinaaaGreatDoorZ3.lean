/- The walks of natural: subtract, Subtract, Multiply. -/
import Derived.Test.YtjonjhcaniinaaaGreatDoorZ2
import Derived.Lib.Bytealg
import Derived.Test.YtjonjhcaniinaaaGreatDoorTie
import Derived.ProofKit
import Derived.OpenShut
import Derived.Deep.Slices
import Derived.Deep.Strs
import Derived.Lib.SmallJoins
import Derived.Carry
set_option linter.unusedSimpArgs false
set_option linter.unusedVariables false
set_option maxHeartbeats 8000000
namespace Go.Proofs.Ins
open Go.RowKit
def jK (x y:Nat):Int:=if x<y then -1 else if y<x then 1 else 0
theorem lU {x y:Nat} (h:x<y):jK x y = -1:=by unfold jK;rw [if_pos h]
theorem rJ {x y:Nat} (h:y<x):jK x y=1:=by unfold jK;rw [if_neg (by omega),if_pos h]
theorem EM (x:Nat):jK x x=0:=by unfold jK;rw [if_neg (by omega),if_neg (by omega)]
theorem Eo : ∀ (l r:List UInt8),l.length=r.length→Lib.compareBytes l r=jK (bv l) (bv r):=by
 intro l
 induction l with
 | nil=>intro r h;cases r with
  | nil=>rfl
  | cons _ _=>simp at h
 | cons a l ih =>
  intro r h
  cases r with
  | nil=>simp at h
  | cons b r =>
   have hl:l.length=r.length:=by simpa using h
   unfold Lib.compareBytes
   have h1:=DL l
   have h2:=DL r
   rw [pz,pz,hl]
   rw [hl] at h1
   by_cases c1:a<b
   ·rw [if_pos c1]
    have:a.toNat<b.toNat:=c1
    have:a.toNat*256 ^ r.length+256 ^ r.length≤b.toNat*256 ^ r.length:=by rw [← Nat.succ_mul];exact Nat.mul_le_mul_right _ this
    rw [lU (by omega)]
   ·rw [if_neg c1]
    by_cases c2:b<a
    ·rw [if_pos c2]
     have:b.toNat<a.toNat:=c2
     have:b.toNat*256 ^ r.length+256 ^ r.length≤a.toNat*256 ^ r.length:=by rw [← Nat.succ_mul];exact Nat.mul_le_mul_right _ this
     rw [rJ (by omega)]
    ·rw [if_neg c2,ih r hl]
     have e:a.toNat=b.toNat:=by
      have c1' : ¬ a.toNat<b.toNat:=c1
      have c2' : ¬ b.toNat<a.toNat:=c2
      omega
     rw [e];unfold jK
     congr 1
     ·simp
     ·congr 1;simp
set_option maxRecDepth 100000 in
theorem JY (a:Option Addr) (cap:Nat) (w:World) :
  Calls Tryz.prog 76 #[.slice a 0 cap] w fun e w'=>e = .returned (.string (bn 0))∧Below w.heap.size w w':=by
 go_enter Tryz.func76,Tryz.ntmps76
 go_wp2_with (refine cZ _ _ 179 5 .u8 1 0 _ rfl rfl Tryz.underlying179 FX rfl rfl (by omega) (by omega) (by omega) ?_;intro w1 hr1 hb1 hz1)
 go_loopw [11] (fun i wr=>i = .int .i64 0∧wr=w1) (fun i _=>0)
 case atStart=>exact ⟨rfl,rfl⟩
 case round =>
  obtain ⟨rfl,rfl⟩:=hrel
  have hcv:=hr1.str (P:=Tryz.prog) (src:=179) (dst:=9) 0 Tryz.underlying179 Tryz.underlying5 Tryz.underlying9
  clear hr1 hz1
  go_wp2_with (go_at_call 72;refine (aQ _ _ ?_).mono ?_;(rw [uf];omega);rintro e w' ⟨rfl,rfl⟩)
  go_ret
  exact ⟨rfl,hb1⟩
theorem Ah (a:Option Addr) (len cap x:Nat) (w:World) (h:Limbs w a len x) (hl:len≤1073741824) (hcap:len≤cap) :
  Calls Tryz.prog 76 #[.slice a len cap] w fun e w'=>e = .returned (.string (bn x))∧Below w.heap.size w w':=by
 obtain ⟨f,rfl,h2,h3⟩:=h
 rcases h3 with rfl|⟨b,off,rfl,hr⟩
 ·exact JY a cap w
 ·exact ug b off len cap f w hl hcap hr h2.1
def SG (n:Int):Int:=if n<0 then -1 else if 0<n then 1 else 0
theorem LY {n:Int} (h:n<0):SG n = -1:=by unfold SG;rw [if_pos h]
theorem LZ {n:Int} (h:0<n):SG n=1:=by unfold SG;rw [if_neg (by omega),if_pos h]
set_option maxRecDepth 100000 in
theorem OL (n:Int) (w:World):Calls Tryz.prog 73 #[.int .i64 n] w fun e w'=>e = .returned (.int .i64 (SG n))∧w=w':=by
 rcases (show n<0∨0<n∨n=0 by omega) with h1|h1|rfl
 ·have h2:decide (n<0)=true:=by simpa using h1
  go_enter Tryz.func73,Tryz.ntmps73
  go_wp2
  go_ret
  exact ⟨aS (LY h1).symm,rfl⟩
 ·go_enter Tryz.func73,Tryz.ntmps73
  go_wp2
  go_ret
  exact ⟨aS (LZ h1).symm,rfl⟩
 ·go_enter Tryz.func73,Tryz.ntmps73
  go_wp2
  go_ret
  exact ⟨rfl,rfl⟩
theorem aau (a b:ByteArray) (w:World):Sem.run Tryz.prog (callFunc 148 #[Value.string a,Value.string b]) w=Sem.run Tryz.prog (do let v←(Extern.BytealgCompare.compare #[.string a,.string b]);pure (Next.value v)) w:=by kernel_rfl
theorem aem (a b:ByteArray) (w:World):Sem.run Tryz.prog (callFunc 148 #[Value.string a,Value.string b]) w = .ok (Next.value (.int .i64 (Lib.compareBytes a.data.toList b.data.toList))) w:=by
 rw [aau,Sem.run_bind,Lib.run_compareString];rfl
set_option maxRecDepth 100000 in
theorem SI (a b:ByteArray) (w:World):Calls Tryz.prog 112 #[.string a,.string b] w fun e w'=>e = .returned (.int .i64 (Lib.compareBytes a.data.toList b.data.toList))∧w=w':=by
 have hx:=fun w=>aem a b w
 go_enter Tryz.func112,Tryz.ntmps112
 go_wp2
 go_ret
 exact ⟨rfl,rfl⟩
set_option maxRecDepth 100000 in
theorem SK (a b:ByteArray) (w:World):Calls Tryz.prog 74 #[.string a,.string b] w fun e w'=>e = .returned (.int .i64 (Lib.compareBytes a.data.toList b.data.toList))∧w=w':=by
 go_enter Tryz.func74,Tryz.ntmps74
 go_wp2_with (go_at_call 112;refine (SI _ _ _).mono ?_;rintro e w' ⟨rfl,rfl⟩)
 go_ret
 exact ⟨rfl,rfl⟩
theorem JZ {x y:Nat} (h:(bn x).size<(bn y).size):x<y:=by
 have h1:(Em x).length<(Em y).length:=h
 have h2:=DL (Em x)
 have h3:256 ^ ((Em y).length - 1)≤bv (Em y):=JW (zO y) (by intro e;rw [e] at h1;simp at h1)
 rw [Fz] at h2 h3
 have:256 ^ (Em x).length≤256 ^ ((Em y).length - 1):=Nat.pow_le_pow_right (by omega) (by omega)
 omega
theorem kW (s:ByteArray):(bn (nv s)).size≤s.size:=jv (DN s)
set_option maxRecDepth 100000 in
theorem L6 (a b:ByteArray) (w:World) (ha:a.size≤1073741824) (hb:b.size≤1073741824) :
  Calls Tryz.prog 36 #[.string a,.string b] w fun e w'=>e = .returned (.int .i64 (jK (nv a) (nv b)))∧w=w':=by
 have ha2:=kW a
 have hb2:=kW b
 obtain ⟨x,hx⟩ : ∃ x,x=bn (nv a):=⟨_,rfl⟩
 obtain ⟨y,hy⟩ : ∃ y,y=bn (nv b):=⟨_,rfl⟩
 have n1:Calls Tryz.prog 72 #[.string a] w fun e w'=>e = .returned (.string x)∧w=w':=by rw [hx];exact aQ a w (by omega)
 have n2:Calls Tryz.prog 72 #[.string b] w fun e w'=>e = .returned (.string y)∧w=w':=by rw [hy];exact aQ b w (by omega)
 rw [← hx] at ha2
 rw [← hy] at hb2
 have Hx:=Lib.hid hx
 have Hy:=Lib.hid hy
 have N1:=Lib.hid n1
 have N2:=Lib.hid n2
 clear hx hy n1 n2
 by_cases hlen:x.size=y.size
 ·have hcmp:Lib.compareBytes x.data.toList y.data.toList=jK (nv a) (nv b):=by
   rw [Eo _ _ hlen]
   have e1:bv x.data.toList=nv a:=by rw [Hx.out];exact bJ _
   have e2:bv y.data.toList=nv b:=by rw [Hy.out];exact bJ _
   rw [e1,e2]
  have HC:=Lib.hid hcmp
  have HL:((x.size:Int) == (y.size:Int))=true:=by simp;omega
  have HL2:((x.size:Int) != (y.size:Int))=false:=by simp;omega
  clear hcmp hlen
  go_enter Tryz.func36,Tryz.ntmps36
  go_wp2_with fail
  refine N1.out.mono ?_;rintro e w' ⟨rfl,rfl⟩
  go_wp2_with fail
  refine N2.out.mono ?_;rintro e w' ⟨rfl,rfl⟩
  go_wp2_with fail
  refine (SK _ _ _).mono ?_;rintro e w' ⟨rfl,rfl⟩
  go_wp2
  go_ret
  exact ⟨aS HC.out,rfl⟩
 ·have HL2:((x.size:Int) != (y.size:Int))=true:=by simp;omega
  have hcmp:SG ((x.size:Int) - y.size)=jK (nv a) (nv b):=by
   rcases (show x.size<y.size∨y.size<x.size by omega) with h|h
   ·rw [LY (by omega)]
    rw [Hx.out,Hy.out] at h
    rw [lU (JZ h)]
   ·rw [LZ (by omega)]
    rw [Hx.out,Hy.out] at h
    rw [rJ (JZ h)]
  have HC:=Lib.hid hcmp
  clear hcmp hlen
  go_enter Tryz.func36,Tryz.ntmps36
  go_wp2_with fail
  refine N1.out.mono ?_;rintro e w' ⟨rfl,rfl⟩
  go_wp2_with fail
  refine N2.out.mono ?_;rintro e w' ⟨rfl,rfl⟩
  go_wp2_with fail
  refine (OL _ _).mono ?_;rintro e w' ⟨rfl,rfl⟩
  go_wp2
  go_ret
  exact ⟨aS HC.out,rfl⟩
end Go.Proofs.Ins
namespace Go.Proofs.Ins
theorem nU (q:Rat):(sg q = -1∧q<0)∨(sg q=0∧q=0)∨(sg q=1∧0<q):=by
 unfold sg
 by_cases h:q=0
 ·rw [if_pos h];exact .inr (.inl ⟨rfl,h⟩)
 ·rw [if_neg h]
  by_cases h2:q<0
  ·rw [if_pos h2];exact .inl ⟨rfl,h2⟩
  ·rw [if_neg h2];exact .inr (.inr ⟨rfl,by grind⟩)
theorem SL {p q:Rat} (h:sg p<sg q):ku p q = -1:=by
 apply uU
 rcases nU p with ⟨e1,h1⟩|⟨e1,h1⟩|⟨e1,h1⟩ <;> rcases nU q with ⟨e2,h2⟩|⟨e2,h2⟩|⟨e2,h2⟩ <;> first|omega|grind
theorem SQ {p q:Rat} (h:sg q<sg p):ku p q=1:=by
 apply uV
 rcases nU p with ⟨e1,h1⟩|⟨e1,h1⟩|⟨e1,h1⟩ <;> rcases nU q with ⟨e2,h2⟩|⟨e2,h2⟩|⟨e2,h2⟩ <;> first|omega|grind
theorem aav {p q:Rat} (h:sg p=sg q):rn p=rn q:=by
 rcases nU p with ⟨e1,h1⟩|⟨e1,h1⟩|⟨e1,h1⟩ <;> rcases nU q with ⟨e2,h2⟩|⟨e2,h2⟩|⟨e2,h2⟩ <;> first
  | omega
  | rw [LV.mpr h1,LV.mpr h2]
  | rw [FW.mpr (by grind),FW.mpr (by grind)]
theorem XV {p q:Rat} (h:sg p=sg q):ku p q=if rn p=true then -(jK (nm p*q.den) (nm q*p.den)) else jK (nm p*q.den) (nm q*p.den):=by
 have hn:=aav h
 have e1:=zi p
 have e2:=zi q
 have h1:=Rat.lt_iff p q
 have h2:=Rat.lt_iff q p
 rw [← e1,← e2,← hn] at h1 h2
 obtain ⟨X,hX⟩ : ∃ X,X=nm p*q.den:=⟨_,rfl⟩
 obtain ⟨Y,hY⟩ : ∃ Y,Y=nm q*p.den:=⟨_,rfl⟩
 have c1:(nm p:Int)*q.den=(X:Int):=by rw [hX,Int.natCast_mul]
 have c2:(nm q:Int)*p.den=(Y:Int):=by rw [hY,Int.natCast_mul]
 rw [← hX,← hY]
 have heq:X=Y→p=q:=fun e=>by
  rw [Rat.eq_iff_mul_eq_mul,← e1,← e2,← hn]
  unfold mQ
  split
  ·rw [Int.neg_mul,Int.neg_mul,c1,c2,e]
  ·rw [c1,c2,e]
 cases hr:rn p
 ·rw [hr] at h1 h2
  simp only [mQ,Bool.false_eq_true,if_false] at h1 h2 ⊢
  rw [c1,c2] at h1 h2
  rcases Nat.lt_trichotomy X Y with h3|h3|h3
  ·rw [lU h3,uU (h1.mpr (by omega))]
  ·rw [heq h3,uX,h3,EM]
  ·rw [rJ h3,uV (h2.mpr (by omega))]
 ·rw [hr] at h1 h2
  simp only [mQ,if_true,Int.neg_mul] at h1 h2 ⊢
  rw [c1,c2] at h1 h2
  rcases Nat.lt_trichotomy X Y with h3|h3|h3
  ·rw [lU h3,uV (h2.mpr (by omega))];rfl
  ·rw [heq h3,uX,h3,EM];rfl
  ·rw [rJ h3,uU (h1.mpr (by omega))]
end Go.Proofs.Ins
namespace Go.Proofs.Ins
open Go.RowKit
structure R3 where
 n:Bool
 s:ByteArray
 d:ByteArray
instance:Inhabited R3:=⟨⟨false,⟨#[]⟩,⟨#[]⟩⟩⟩
def R3.c (r:R3):List Value:=[.bool r.n,.string r.s,.string r.d]
def R3.q (r:R3):Rat:=rq r.n r.s r.d
def R3.small (r:R3):Prop:=r.s.size≤24∧r.d.size≤24
instance (r:R3):Decidable r.small:=by unfold R3.small;infer_instance
def R3.fits (r:R3) (k:Nat):Prop:=r.s.size≤k∧r.d.size≤k
def qY (q:Rat):R3:=⟨rn q,rs q,rd q⟩
theorem DV (q:Rat):(qY q).q=q:=DU q
theorem OM {q:Rat} {k:Nat} (h:Sm k q):(qY q).fits k:=⟨h.rs,h.rd⟩
structure V8 where
 p:Int
 a:R3
 k:R3
 x:Bool
instance:Inhabited V8:=⟨⟨0,default,default,false⟩⟩
def V8.c (v:V8):List Value:=[.int .i64 v.p,.bool v.a.n,.string v.a.s,.string v.a.d,.bool v.k.n,.string v.k.s,.string v.k.d,.bool v.x]
end Go.Proofs.Ins
namespace Go.Proofs.Ins
open Go Go.RowKit Go.ChangeShapes Go.WideShapes Go.Deep
section
variable {H:Type} {enc:TypeId×Value→H} {P:Program} {W:World} {sp:Nat→Bool} {held:Bool}
def Light (P:Program) (t:TypeId) (d:DataW H):Prop:=∀ n∈d.weights P t,n≤140737488351232
theorem qm {ts:List TypeId} {ds:List (DataW H)} (h:(DataW.weightsEach P ts ds).all (·≤reachBytes)=true) {j:Nat} {t:TypeId} {d:DataW H} (ht:ts[j]?=some t) (hd:ds[j]?=some d):Light P t d:=fun n hn=>by
 have:=List.all_eq_true.1 h _ (DataW.weights_mem_each ht hd n hn)
 exact of_decide_eq_true this
theorem vV {e:TypeId} : ∀ {l:List (DataW H)} {d:DataW H},d∈l→∀ n∈d.weights P e,n∈DataW.weightsAll P e l
 | d' :: r,d,hd,n,hn=>by
  simp only [DataW.weightsAll,List.mem_append]
  rcases List.mem_cons.1 hd with rfl|h
  ·exact Or.inl hn
  ·exact Or.inr (vV h n hn)
theorem SS {t e:TypeId} {l sp:List (DataW H)} {d:DataW H} (ht:P.underlying t=some (.slice e)) (h:Light P t (.slice l sp)) (hd:d∈l):Light P e d:=fun n hn=>h n (by
 simp only [DataW.weights,ht,List.mem_cons,List.mem_append]
 exact .inr (.inl (vV hd n hn)))
theorem XW {t e:TypeId} {l sp:List (DataW H)} (ht:P.underlying t=some (.slice e)) (h:Light P t (.slice l sp)) (he:0<P.bytesOf e):l.length≤140737488351232:=by
 have:=h ((l.length+sp.length)*P.bytesOf e) (by simp [DataW.weights,ht])
 have h2:=Nat.le_mul_of_pos_right (l.length+sp.length) he
 omega
theorem BZ {t e:TypeId} {fuel k:Nat} {cs:List Value} {x:DataW H×List MemPlace} (ht:P.underlying t=some (.slice e)) (hk:P.cellsOf e=k) (hk0:0<k) (he:0<P.bytesOf e) (h:DataW.trod enc P W 0 sp held fuel t cs=some x) (hL:Light P t x.1) :
  ∃ (a:Option Addr) (len cap:Nat) (C:Nat→List Value),cs=[.slice a len cap]∧len≤140737488351232∧LP W a len k C∧∀ i,i<len→(C i).length=k∧∃ n y,DataW.trod enc P W 0 sp held n e (C i)=some y∧Light P e y.1:=by
 rcases open_slice ht h with ⟨rfl,-⟩|⟨a,len,cap,m,n,D,Pl,rfl,-,hl,hm,hmm,rfl,hx⟩
 ·exact ⟨none,0,0,fun _=>[],rfl,by omega,.inl rfl,fun i hi=>by omega⟩
 ·have hlm:len≤m:=by rw [hmm];split <;> omega
  obtain ⟨C,hC⟩:=choose_lt (α:=List Value) (p:=fun i c=>W.cells? 0 (a.add (i*P.cellsOf e)) (P.cellsOf e)=some c∧DataW.trod enc P W 0 sp held n e c=some (D i,Pl i)) (fun i hi=>hx i hi)
  have hlen:=XW ht hL he
  rw [List.length_map,List.length_range] at hlen
  refine ⟨some a,len,cap,C,rfl,hlen,?_,fun i hi=>⟨?_,n,_,(hC i (by omega)).2,SS ht hL (List.mem_map.2 ⟨i,by simpa using hi,rfl⟩)⟩⟩
  ·rcases Nat.eq_zero_or_pos len with h0|h0
   ·exact .inl h0
   ·obtain ⟨b,off,spot⟩:=a
    obtain ⟨_,hlen,hget⟩:=World.cells?_some (hC 0 (by omega)).1
    have h00:=hget 0 (by omega)
    rw [List.getElem?_eq_getElem (by omega)] at h00
    have hspot:spot=none:=by simpa [Addr.add] using World.cell?_spot h00
    subst hspot
    have hadd : ∀ i j,((⟨b,off,none⟩:Addr).add (i*k)).add j=⟨b,off+i*k+j,none⟩:=fun i j=>by
     unfold Addr.add
     by_cases h1:i*k=0 <;> by_cases h2:j=0 <;> simp [h1,h2]
    refine .inr ⟨b,off,rfl,?_,fun i j hi hj=>?_⟩
    ·have:=block_lt_of_cell h00
     simpa [Addr.add] using this
    ·obtain ⟨_,_,hg⟩:=World.cells?_some (hC i (by omega)).1
     have:=hg j (by omega)
     rw [hk,hadd] at this
     exact this
  ·obtain ⟨_,hlen,_⟩:=World.cells?_some (hC i (by omega)).1
   rw [hlen,hk]
end
section
variable {H:Type} {enc:TypeId×Value→H} {W:World} {sp:Nat→Bool} {held:Bool}
theorem lJ {fuel:Nat} {cs:List Value} {x:DataW H×List MemPlace} (h:DataW.trod enc Tryz.prog W 0 sp held fuel 61 cs=some x) : ∃ m:Nat,cs=[.int .u16 (m:Int)]∧m≤65535:=by
 obtain ⟨n,rfl,-,hw⟩:=DataW.trod_int Tryz.underlying61 h
 have hw2:0≤n∧n≤65535:=by simpa [Lit.wf,IntKind.min,IntKind.max,IntKind.signed,IntKind.bits] using hw
 exact ⟨n.toNat,by rw [Int.toNat_of_nonneg hw2.1],by omega⟩
end
end Go.Proofs.Ins
namespace Go.Proofs.Ins
open Go.RowKit
theorem Cb (n:Int) (h0:0≤n) (h1:n<2 ^ 32):IntKind.u32.wrap n=n:=by rw [IntKind.wrap_u32];omega
theorem VF (a b:Nat) (ha:a<2 ^ 32) (hb:b<2 ^ 32):bits .and .u32 (a:Int) b=((a &&& b:Nat):Int):=(bits_nat .u32 32 (by decide) Cb a b ha hb).1
theorem VG (a b:Nat) (ha:a<2 ^ 32) (hb:b<2 ^ 32):bits .or .u32 (a:Int) b=((a ||| b:Nat):Int):=(bits_nat .u32 32 (by decide) Cb a b ha hb).2
theorem L8 (a b:Nat) (ha:a<2 ^ 32) (hb:b<2 ^ 32):bits .xor .u32 (a:Int) b=((a ^^^ b:Nat):Int):=by
 have ha' : a%2 ^ IntKind.u32.bits=a:=Nat.mod_eq_of_lt ha
 have hb' : b%2 ^ IntKind.u32.bits=b:=Nat.mod_eq_of_lt hb
 simp only [bits,BitVec.ofInt_natCast,BitVec.toNat_xor,BitVec.toNat_ofNat,ha',hb']
 have h:=Nat.xor_lt_two_pow ha hb
 exact Cb _ (Int.natCast_nonneg _) (by exact_mod_cast h)
theorem SV {a:Nat} (h:a<2 ^ 32):a >>> 31=0∨a >>> 31=1:=by
 rw [Nat.shiftRight_eq_div_pow];omega
theorem SX (x y d:Nat) (hx:x<2 ^ 32) (hy:y<2 ^ 32) (hd:d<2 ^ 32) (b:Nat) (hb:b≤1) (he:(d+y+b)%4294967296=x) :
  (((4294967295 ^^^ x) &&& y) ||| ((4294967295 ^^^ (x ^^^ y)) &&& d))/2147483648=if x<y+b then 1 else 0:=by
 have e : ∀ n,n/2147483648=n >>> 31:=fun n=>by rw [Nat.shiftRight_eq_div_pow]
 rw [e,Nat.shiftRight_or_distrib,Nat.shiftRight_and_distrib,Nat.shiftRight_and_distrib,Nat.shiftRight_xor_distrib,Nat.shiftRight_xor_distrib,Nat.shiftRight_xor_distrib]
 have m:4294967295 >>> 31=1:=by decide
 rw [m]
 have tx:=SV hx
 have ty:=SV hy
 have td:=SV hd
 have fx:x >>> 31=x/2147483648:=(e x).symm
 have fy:y >>> 31=y/2147483648:=(e y).symm
 have fd:d >>> 31=d/2147483648:=(e d).symm
 rcases tx with tx|tx <;> rcases ty with ty|ty <;> rcases td with td|td <;> rw [tx,ty,td] <;> simp <;> omega
theorem SY (x y b:Int) (hx0:0≤x) (hx:x≤4294967295) (hy0:0≤y) (hy:y≤4294967295) (hb0:0≤b) (hb:b≤1) :
  bits BinOp.or .u32 (bits BinOp.and .u32 (bits BinOp.xor .u32 IntKind.u32.max x) y) (bits BinOp.and .u32 (bits BinOp.xor .u32 IntKind.u32.max (bits BinOp.xor .u32 x y)) ((x - y - b)%4294967296))/2147483648
   = if x<y+b then 1 else 0:=by
 obtain ⟨x,rfl⟩:=Int.eq_ofNat_of_zero_le hx0
 obtain ⟨y,rfl⟩:=Int.eq_ofNat_of_zero_le hy0
 obtain ⟨b,rfl⟩:=Int.eq_ofNat_of_zero_le hb0
 obtain ⟨d,hd⟩:=Int.eq_ofNat_of_zero_le (show 0≤((x:Int) - y - b)%4294967296 by omega)
 have hd2:d<2 ^ 32:=by omega
 have hm:IntKind.u32.max=((4294967295:Nat):Int):=by decide
 rw [hd,hm]
 have h1:(4294967295 ^^^ x)<2 ^ 32:=Nat.xor_lt_two_pow (by decide) (by omega)
 have h2:(x ^^^ y)<2 ^ 32:=Nat.xor_lt_two_pow (by omega) (by omega)
 have h3:(4294967295 ^^^ (x ^^^ y))<2 ^ 32:=Nat.xor_lt_two_pow (by decide) h2
 rw [L8 _ x (by decide) (by omega),L8 x y (by omega) (by omega),L8 _ _ (by decide) h2,VF _ _ h1 (by omega),VF _ _ h3 hd2,
  VG _ _ (Nat.and_lt_two_pow _ (by omega)) (Nat.and_lt_two_pow _ hd2)]
 have h4:=SX x y d (by omega) (by omega) hd2 b (by omega) (by omega)
 have h5:((2147483648:Int))=((2147483648:Nat):Int):=rfl
 rw [h5,← Int.natCast_ediv,h4]
 split <;> split <;> omega
def brw (x y b:Int):Int:=if x<y+b then 1 else 0
set_option maxRecDepth 100000 in
theorem uh (x y b:Int) (w:World) (hx0:0≤x) (hx:x≤4294967295) (hy0:0≤y) (hy:y≤4294967295) (hb0:0≤b) (hb:b≤1) :
  Calls Tryz.prog 149 #[.int .u32 x,.int .u32 y,.int .u32 b] w fun e w'=>e = .returned (.tuple #[.int .u32 ((x - y - b)%4294967296),.int .u32 (brw x y b)])∧w=w':=by
 have H:=Lib.hid (SY x y b hx0 hx hy0 hy hb0 hb)
 go_enter Tryz.func149,Tryz.ntmps149
 go_wp2
 go_ret2
 refine ⟨?_,rfl⟩
 unfold brw
 rw [← H.out];rfl
set_option maxRecDepth 100000 in
theorem uj (x y c:Int) (w:World) (hx0:0≤x) (hx:x≤4294967295) (hy0:0≤y) (hy:y≤4294967295) (hb0:0≤c) (hb:c≤1) :
  Calls Tryz.prog 114 #[.int .u32 x,.int .u32 y,.int .u32 c] w fun e w'=>e = .returned (.tuple #[.int .u32 ((x+y+c)%4294967296),.int .u32 ((x+y+c)/4294967296)])∧w=w':=by
 go_enter Tryz.func114,Tryz.ntmps114
 go_wp2
 go_ret2
 exact ⟨rfl,rfl⟩
set_option maxRecDepth 100000 in
theorem OO (a b:Option Addr) (la lb ca cb:Nat) (w:World) (h:la≠lb) (h1:la≤4294967296) (h2:lb≤4294967296) :
  Calls Tryz.prog 115 #[.slice a la ca,.slice b lb cb] w fun e w'=>e = .returned (.int .i64 (SG ((la:Int) - lb)))∧w=w':=by
 have HL2:((la:Int) != (lb:Int))=true:=by simp;omega
 clear h
 go_enter Tryz.func115,Tryz.ntmps115
 go_wp2_with (go_at_call 73;refine (OL _ _).mono ?_;rintro e w' ⟨rfl,rfl⟩)
 go_ret
 exact ⟨rfl,rfl⟩
set_option maxRecDepth 100000 in
theorem L9 (a b:Option Addr) (ca cb:Nat) (w:World) :
  Calls Tryz.prog 115 #[.slice a 0 ca,.slice b 0 cb] w fun e w'=>e = .returned (.int .i64 0)∧w=w':=by
 go_enter Tryz.func115,Tryz.ntmps115
 go_wp2
 go_loop [5] (fun v=>v = .int .i64 (-1)) (fun _=>0)
 case atStart=>exact rfl
 case round =>
  subst hrel
  go_wp2
  go_ret
  exact ⟨rfl,rfl⟩
set_option maxRecDepth 100000 in
theorem Mc (b1 o1 b2 o2 n c1 c2:Nat) (f g:Nat→Nat) (w:World) (hn:n≤4294967296) (hn0:0<n) (hf:Reads w b1 o1 .u32 n f) (hg:Reads w b2 o2 .u32 n g)
  (lf : ∀ j,j<n→f j<LB) (lg : ∀ j,j<n→g j<LB) :
  Calls Tryz.prog 115 #[.slice (some ⟨b1,o1,none⟩) n c1,.slice (some ⟨b2,o2,none⟩) n c2] w fun e w'=>e = .returned (.int .i64 (jK (lv f n) (lv g n)))∧Below w.heap.size w w':=by
 have Hlf:=Lib.hid lf
 have Hlg:=Lib.hid lg
 have Hf:=Lib.hid hf
 have Hg:=Lib.hid hg
 clear lf lg hf hg
 go_enter Tryz.func115,Tryz.ntmps115
 go_wp2
 go_loopw [5] (fun v wr=>∃ i:Int,v = .int .i64 i∧-1≤i∧i<n∧Hid (∀ j:Nat,i<j→j<n→f j=g j)∧∃ q,wr=w.drewN q) (fun v _=>(intOf v+1).toNat)
 case atStart=>exact ⟨(n:Int) - 1,rfl,by omega,by omega,fun j h1 h2=>by omega,0,rfl⟩
 case round =>
  obtain ⟨i,rfl,hi1,hi2,hall,q,rfl⟩:=hrel
  by_cases h0:i = -1
  ·subst h0
   have he:lv f n=lv g n:=kJ fun j hj=>hall.out j (by omega) hj
   have HE:=Lib.hid he
   clear he
   go_wp2
   go_ret
   exact ⟨aS (by rw [HE.out,EM]),below_drewN (Below.refl _ _) q⟩
  ·obtain ⟨m,rfl⟩:=Int.eq_ofNat_of_zero_le (show 0≤i by omega)
   have hm:(m:Int)<n:=hi2
   have hc1:=Hf.out m (by omega)
   have hc2:=Hg.out m (by omega)
   rcases (show f m<g m∨g m<f m∨f m=g m by omega) with h|h|h
   ·have t1:((f m:Int) != (g m:Int))=true:=by simp;omega
    have t2:((f m:Int)<(g m:Int)):=by omega
    have HR:=Lib.hid (oZ Hlf.out Hlg.out (show m<n by omega) (fun j h1 h2=>hall.out j (by omega) h2) h)
    go_wp2
    go_quiet (fail)
    go_wp2
    go_quiet (fail)
    go_wp2
    go_ret
    exact ⟨aS (lU HR.out).symm,below_drewN (below_drewN (below_drewN (Below.refl _ _) _) _) _⟩
   ·have t1:((f m:Int) != (g m:Int))=true:=by simp;omega
    have t2:decide ((f m:Int)<(g m:Int))=false:=by simp;omega
    have HR:=Lib.hid (oZ Hlg.out Hlf.out (show m<n by omega) (fun j h1 h2=>(hall.out j (by omega) h2).symm) h)
    go_wp2
    go_quiet (fail)
    go_wp2
    go_quiet (fail)
    go_wp2
    go_ret
    exact ⟨aS (rJ HR.out).symm,below_drewN (below_drewN (below_drewN (Below.refl _ _) _) _) _⟩
   ·rw [h] at hc1
    have H:=Lib.hid h
    clear h
    go_wp2
    go_quiet (fail)
    go_wp2
    go_roundw
    case rel=>exact ⟨(m:Int) - 1,rfl,by omega,by omega,fun j h1 h2=>by
     by_cases e:j=m
     ·subst e;exact H.out
     ·exact hall.out j (by omega) h2,_,rfl⟩
    case measure=>simp [intOf]
theorem rM (a b:Option Addr) (la lb ca cb x y:Nat) (w:World) (h1:Limbs w a la x) (h2:Limbs w b lb y) (l1:la≤4294967296) (l2:lb≤4294967296) :
  Calls Tryz.prog 115 #[.slice a la ca,.slice b lb cb] w fun e w'=>e = .returned (.int .i64 (jK x y))∧Below w.heap.size w w':=by
 obtain ⟨f,rfl,hf,rf⟩:=h1
 obtain ⟨g,rfl,hg,rg⟩:=h2
 by_cases h:la=lb
 ·subst h
  by_cases h0:la=0
  ·subst h0
   exact (L9 a b ca cb w).mono fun e w' ⟨he,hw⟩=>⟨he,hw ▸ Below.refl _ _⟩
  ·rcases rf with rf|⟨b1,o1,rfl,r1⟩
   ·exact absurd rf h0
   rcases rg with rg|⟨b2,o2,rfl,r2⟩
   ·exact absurd rg h0
   exact Mc b1 o1 b2 o2 la ca cb f g w l1 (by omega) r1 r2 hf.1 hg.1
 ·refine (OO a b la lb ca cb w h l1 l2).mono fun e w' ⟨he,hw⟩=>⟨he.trans (aS ?_),hw ▸ Below.refl _ _⟩
  rcases (show la<lb∨lb<la by omega) with c|c
  ·rw [LY (by omega),lU (hf.y9 hg c)]
  ·rw [LZ (by omega),rJ (hg.y9 hf c)]
theorem Ai (f:Nat→Nat) (k v:Nat) (hv:v=f k) (j:Nat):upd (ext f k) k v j=ext f (k+1) j:=by
 by_cases e:j=k
 ·subst e;rw [upd_same,lS (by omega),hv]
 ·rw [bF _ _ _ e]
  by_cases h:j<k
  ·rw [lS h,lS (by omega)]
  ·rw [iq (by omega),iq (by omega)]
theorem Limbs.nN {w:World} {a:Option Addr} {len:Nat} {s:ByteArray} (h:Limbs w a len (nv s)):4*len≤s.size+3:=by
 have h1:=DN s
 have h2:nv s<LB ^ ((s.size+3)/4):=by
  rw [BX]
  exact Nat.lt_of_lt_of_le h1 (Nat.pow_le_pow_right (by omega) (by omega))
 have:=h.zh h2
 omega
def Cc (w:World) (a:Option Addr) (len x:Nat) (f:Nat→Nat):Prop:=lv f len=x∧Can f len∧(len=0∨∃ b off,a=some ⟨b,off,none⟩∧Reads w b off .u32 len f)
theorem EO {F G' C:Nat} {f g:Nat→Nat} {k lx:Nat} {w2 wr:World} {T:TypeId}
  (hd:Sr f g k=(F+G' + C)%LB) (hs:yU f g (k+1)=(F+G' + C)/LB) (hrow:Row wr w2.heap.size T .u32 (lx+1) (ext (Sr f g) k)) (hbel:Below w2.heap.size w2 wr) (hk:k<lx) :
  ∃ k' : Nat,Value.int .i64 ((k:Int)+1) = .int .i64 k'∧k'≤lx∧Value.int .u32 (((F:Int)+(G' : Nat)+C)/4294967296) = .int .u32 (yU f g k') ∧
   Row (wr.setCell ⟨w2.heap.size,k,none⟩ (.int .u32 (((F:Int)+(G' : Nat)+C)%4294967296))) w2.heap.size T .u32 (lx+1) (ext (Sr f g) k') ∧
   Below w2.heap.size w2 (wr.setCell ⟨w2.heap.size,k,none⟩ (.int .u32 (((F:Int)+(G' : Nat)+C)%4294967296))):=by
 rw [qC] at hd hs
 refine ⟨k+1,by go_num,by omega,?_,?_,hbel.setCell (Nat.le_refl _) _⟩
 ·rw [hs];congr 1
 ·have e1:(((F:Int)+(G' : Nat)+C)%4294967296)=((Sr f g k:Nat):Int):=by rw [hd];omega
  rw [e1]
  exact (hrow.set k _).congr fun j _=>Ai _ k _ rfl j
set_option maxRecDepth 100000 in
theorem add_any (a b:ByteArray) (w:World) (ha:a.size≤1073741824) (hb:b.size≤1073741824) :
  Calls Tryz.prog 77 #[.string a,.string b] w fun e w'=>e = .returned (.string (bn (nv a+nv b)))∧Below w.heap.size w w':=by
 go_enter Tryz.func77,Tryz.ntmps77
 go_wp2_with fail
 refine (parse_any a _ ha).mono ?_;rintro e w1 ⟨ax,lx,cx,rfl,lcx,ccx,hX1,hb1⟩
 go_wp2_with fail
 refine (parse_any b _ hb).mono ?_;rintro e w2 ⟨ay,ly,cy,rfl,lcy,ccy,hY,hb2⟩
 have hX:=hX1.below hb2 (Nat.le_refl _)
 have hll:=hX.nN
 have hlm:=hY.nN
 obtain ⟨fx,hX⟩:=hX
 obtain ⟨fy,hY⟩:=hY
 have HX:Hid (Cc w2 ax lx (nv a) fx):=hX
 have HY:Hid (Cc w2 ay ly (nv b) fy):=hY
 clear hX hY hX1
 by_cases hsw:lx<ly
 ·have an1 : decide ((lx:Int)<(ly:Int))=true:=by simp;omega
  go_wp2_with (refine cZ _ _ 136 138 .u32 4 (ly+1) _ rfl rfl Tryz.underlying136 jP rfl rfl (by omega) (by omega) (by omega) ?_;intro w3 hr3 hb3 hz3)
  go_loopw [8,9,10,28] (fun c _ _ i wr=>∃ k:Nat,i = .int .i64 k∧k≤ly∧c = .int .u32 (yU (ext fy ly) (ext fx lx) k)∧Row wr w2.heap.size 138 .u32 (ly+1) (ext (Sr (ext fy ly) (ext fx lx)) k)∧Below w2.heap.size w2 wr) (fun _ _ _ i _=>ly - (intOf i).toNat)
  case atStart=>exact ⟨0,rfl,by omega,rfl,hr3.congr (fun j _=>by rw [iq (by omega)]),hb3⟩
  case round =>
   obtain ⟨k,rfl,hk,rfl,hrow,hbel⟩:=hrel
   clear hr3 hb3 hz3
   have c0:=aak (jw HY.out.2.1.1) (jw HX.out.2.1.1) k
   have fk:=jw HY.out.2.1.1 k
   have gk:=jw HX.out.2.1.1 k
   have hs:=Lib.hid (zT (ext fy ly) (ext fx lx) k)
   have hd:Hid (Sr (ext fy ly) (ext fx lx) k=(ext fy ly k+ext fx lx k+yU (ext fy ly) (ext fx lx) k)%LB):=rfl
   rw [qC] at fk gk
   have q0:(0:Int)≤(yU (ext fy ly) (ext fx lx) k:Int):=by omega
   have q1:(yU (ext fy ly) (ext fx lx) k:Int)≤1:=by omega
   by_cases hlt:k<ly
   ·rcases HY.out.2.2 with h0|⟨b1,o1,rfl,r1⟩
    ·omega
    have hcx:=(r1.below hbel (by have:=r1.lt (by omega);omega)) k hlt
    rw [← lS (f:=fy) hlt] at hcx
    have hold:=hrow.cell (j:=k) (by omega)
    have hfr:=hrow.frozen k
    rw [iq (Nat.le_refl k)] at hold
    have f0:(0:Int)≤(ext fy ly k:Int):=by omega
    have f1:(ext fy ly k:Int)≤4294967295:=by omega
    have g0:(0:Int)≤(ext fx lx k:Int):=by omega
    have g1:(ext fx lx k:Int)≤4294967295:=by omega
    generalize hC:yU (ext fy ly) (ext fx lx) k=C at *
    generalize hF:ext fy ly k=F at *
    have HC:=Lib.hid hC
    have HF:=Lib.hid hF
    clear hC hF
    by_cases hlt2:k<lx
    ·rcases HX.out.2.2 with h0|⟨b2,o2,rfl,r2⟩
     ·omega
     have hcy:=(r2.below hbel (by have:=r2.lt (by omega);omega)) k hlt2
     rw [← lS (f:=fx) hlt2] at hcy
     generalize hG:ext fx lx k=G at *
     have HG:=Lib.hid hG
     clear hG
     go_wp2_with (go_at_call 114;refine (uj _ _ _ _ f0 f1 g0 g1 q0 q1).mono ?_;rintro e w' ⟨rfl,rfl⟩)
     go_roundw
     case rel=>exact EO hd.out hs.out hrow hbel hlt
     case measure=>simp [intOf];omega
    ·have hG0:ext fx lx k=0:=iq (by omega)
     have hnn:decide ((k:Int)<(lx:Int))=false:=by simp;omega
     rw [hG0] at hd hs g0 g1
     have HG:=Lib.hid hG0
     clear hG0
     go_wp2_with (go_at_call 114;refine (uj _ _ _ _ f0 f1 (by omega) (by omega) q0 q1).mono ?_;rintro e w' ⟨rfl,rfl⟩)
     go_roundw
     case rel=>exact EO (G':=0) hd.out hs.out hrow hbel hlt
     case measure=>simp [intOf];omega
   ·obtain rfl:k=ly:=by omega
    have hold:=hrow.cell (j:=k) (by omega)
    have hfr:=hrow.frozen k
    rw [iq (Nat.le_refl k)] at hold
    have hfin:lv (upd (ext (Sr (ext fy k) (ext fx lx)) k) k (yU (ext fy k) (ext fx lx) k)) (k+1)=nv a+nv b:=by
     rw [Nat.add_comm (nv a)]
     rw [bf,qj _ (Nat.le_refl k),upd_same,oH (Nat.le_refl k),aal,oH (Nat.le_refl k),oH (by omega),HY.out.1,HX.out.1]
    have hlim : ∀ j,j<k+1→upd (ext (Sr (ext fy k) (ext fx lx)) k) k (yU (ext fy k) (ext fx lx) k) j<LB:=by
     intro j hj
     by_cases e:j=k
     ·subst e;rw [upd_same];unfold LB;omega
     ·rw [bF _ _ _ e];exact jw (fun j _=>Nat.mod_lt _ gQ) j
    have hrow2:=hrow.set k (yU (ext fy k) (ext fx lx) k)
    have hb3:Below w.heap.size w (wr.setCell ⟨w2.heap.size,k,none⟩ (.int .u32 (yU (ext fy k) (ext fx lx) k))) :=
     (hb1.trans (hb2.mono hb1.size)).trans ((hbel.mono (Nat.le_trans hb1.size hb2.size)).setCell (by have:=hb1.size;have:=hb2.size;simp;omega) _)
    have HR:=Lib.hid hrow2
    have HB:=Lib.hid hb3
    have HF:=Lib.hid hfin
    have HL:=Lib.hid hlim
    clear hrow2 hb3 hfin hlim hrow hs hd
    go_wp2_with fail
    refine (ug w2.heap.size 0 (k+1) (k+1) _ _ (by omega) (by omega) HR.out.reads HL.out).mono ?_
    rintro e w' ⟨rfl,hbt⟩
    rw [HF.out]
    go_wp2
    go_ret
    exact ⟨rfl,HB.out.trans (hbt.mono HB.out.size)⟩
 ·have an1 : decide ((lx:Int)<(ly:Int))=false:=by simp;omega
  go_wp2_with (refine cZ _ _ 136 138 .u32 4 (lx+1) _ rfl rfl Tryz.underlying136 jP rfl rfl (by omega) (by omega) (by omega) ?_;intro w3 hr3 hb3 hz3)
  go_loopw [8,9,10,28] (fun c _ _ i wr=>∃ k:Nat,i = .int .i64 k∧k≤lx∧c = .int .u32 (yU (ext fx lx) (ext fy ly) k)∧Row wr w2.heap.size 138 .u32 (lx+1) (ext (Sr (ext fx lx) (ext fy ly)) k)∧Below w2.heap.size w2 wr) (fun _ _ _ i _=>lx - (intOf i).toNat)
  case atStart=>exact ⟨0,rfl,by omega,rfl,hr3.congr (fun j _=>by rw [iq (by omega)]),hb3⟩
  case round =>
   obtain ⟨k,rfl,hk,rfl,hrow,hbel⟩:=hrel
   clear hr3 hb3 hz3
   have c0:=aak (jw HX.out.2.1.1) (jw HY.out.2.1.1) k
   have fk:=jw HX.out.2.1.1 k
   have gk:=jw HY.out.2.1.1 k
   have hs:=Lib.hid (zT (ext fx lx) (ext fy ly) k)
   have hd:Hid (Sr (ext fx lx) (ext fy ly) k=(ext fx lx k+ext fy ly k+yU (ext fx lx) (ext fy ly) k)%LB):=rfl
   rw [qC] at fk gk
   have q0:(0:Int)≤(yU (ext fx lx) (ext fy ly) k:Int):=by omega
   have q1:(yU (ext fx lx) (ext fy ly) k:Int)≤1:=by omega
   by_cases hlt:k<lx
   ·rcases HX.out.2.2 with h0|⟨b1,o1,rfl,r1⟩
    ·omega
    have hcx:=(r1.below hbel (by have:=r1.lt (by omega);omega)) k hlt
    rw [← lS (f:=fx) hlt] at hcx
    have hold:=hrow.cell (j:=k) (by omega)
    have hfr:=hrow.frozen k
    rw [iq (Nat.le_refl k)] at hold
    have f0:(0:Int)≤(ext fx lx k:Int):=by omega
    have f1:(ext fx lx k:Int)≤4294967295:=by omega
    have g0:(0:Int)≤(ext fy ly k:Int):=by omega
    have g1:(ext fy ly k:Int)≤4294967295:=by omega
    generalize hC:yU (ext fx lx) (ext fy ly) k=C at *
    generalize hF:ext fx lx k=F at *
    have HC:=Lib.hid hC
    have HF:=Lib.hid hF
    clear hC hF
    by_cases hlt2:k<ly
    ·rcases HY.out.2.2 with h0|⟨b2,o2,rfl,r2⟩
     ·omega
     have hcy:=(r2.below hbel (by have:=r2.lt (by omega);omega)) k hlt2
     rw [← lS (f:=fy) hlt2] at hcy
     generalize hG:ext fy ly k=G at *
     have HG:=Lib.hid hG
     clear hG
     go_wp2_with (go_at_call 114;refine (uj _ _ _ _ f0 f1 g0 g1 q0 q1).mono ?_;rintro e w' ⟨rfl,rfl⟩)
     go_roundw
     case rel=>exact EO hd.out hs.out hrow hbel hlt
     case measure=>simp [intOf];omega
    ·have hG0:ext fy ly k=0:=iq (by omega)
     have hnn:decide ((k:Int)<(ly:Int))=false:=by simp;omega
     rw [hG0] at hd hs g0 g1
     have HG:=Lib.hid hG0
     clear hG0
     go_wp2_with (go_at_call 114;refine (uj _ _ _ _ f0 f1 (by omega) (by omega) q0 q1).mono ?_;rintro e w' ⟨rfl,rfl⟩)
     go_roundw
     case rel=>exact EO (G':=0) hd.out hs.out hrow hbel hlt
     case measure=>simp [intOf];omega
   ·obtain rfl:k=lx:=by omega
    have hold:=hrow.cell (j:=k) (by omega)
    have hfr:=hrow.frozen k
    rw [iq (Nat.le_refl k)] at hold
    have hfin:lv (upd (ext (Sr (ext fx k) (ext fy ly)) k) k (yU (ext fx k) (ext fy ly) k)) (k+1)=nv a+nv b:=by
     rw [bf,qj _ (Nat.le_refl k),upd_same,oH (Nat.le_refl k),aal,oH (Nat.le_refl k),oH (by omega),HX.out.1,HY.out.1]
    have hlim : ∀ j,j<k+1→upd (ext (Sr (ext fx k) (ext fy ly)) k) k (yU (ext fx k) (ext fy ly) k) j<LB:=by
     intro j hj
     by_cases e:j=k
     ·subst e;rw [upd_same];unfold LB;omega
     ·rw [bF _ _ _ e];exact jw (fun j _=>Nat.mod_lt _ gQ) j
    have hrow2:=hrow.set k (yU (ext fx k) (ext fy ly) k)
    have hb3:Below w.heap.size w (wr.setCell ⟨w2.heap.size,k,none⟩ (.int .u32 (yU (ext fx k) (ext fy ly) k))) :=
     (hb1.trans (hb2.mono hb1.size)).trans ((hbel.mono (Nat.le_trans hb1.size hb2.size)).setCell (by have:=hb1.size;have:=hb2.size;simp;omega) _)
    have HR:=Lib.hid hrow2
    have HB:=Lib.hid hb3
    have HF:=Lib.hid hfin
    have HL:=Lib.hid hlim
    clear hrow2 hb3 hfin hlim hrow hs hd
    go_wp2_with fail
    refine (ug w2.heap.size 0 (k+1) (k+1) _ _ (by omega) (by omega) HR.out.reads HL.out).mono ?_
    rintro e w' ⟨rfl,hbt⟩
    rw [HF.out]
    go_wp2
    go_ret
    exact ⟨rfl,HB.out.trans (hbt.mono HB.out.size)⟩
theorem FZ (s:ByteArray):nv s<LB ^ ((s.size+3)/4):=by
 rw [BX]
 exact Nat.lt_of_lt_of_le (DN s) (Nat.pow_le_pow_right (by omega) (by omega))
theorem VH {F G C:Nat} {f g:Nat→Nat} {k lx:Nat} {w2 wr:World} {T:TypeId}
  (hF:f k=F) (hG:g k=G) (hC:FB f g k=C) (lF:F<LB) (lG:G<LB) (hrow:Row wr w2.heap.size T .u32 lx (ext (ddg f g) k)) (hbel:Below w2.heap.size w2 wr) (hk:k<lx) :
  ∃ k' : Nat,Value.int .i64 ((k:Int)+1) = .int .i64 k'∧k'≤lx∧Value.int .u32 (brw F (G:Nat) C) = .int .u32 (FB f g k') ∧
   Row (wr.setCell ⟨w2.heap.size,k,none⟩ (.int .u32 (((F:Int) - (G:Nat) - C)%4294967296))) w2.heap.size T .u32 lx (ext (ddg f g) k') ∧
   Below w2.heap.size w2 (wr.setCell ⟨w2.heap.size,k,none⟩ (.int .u32 (((F:Int) - (G:Nat) - C)%4294967296))):=by
 have hd:=Sv (f:=f) (g:=g) (k:=k) (by omega) (by omega)
 have hb:=LK f g k
 have hs:=FC f g k
 rw [hF,hG,hC] at hs hd
 rw [hC] at hb
 refine ⟨k+1,by go_num,by omega,?_,?_,hbel.setCell (Nat.le_refl _) _⟩
 ·congr 1
  rw [hs];unfold brw
  by_cases c:F<G+C
  ·rw [if_pos c,if_pos (by omega)];rfl
  ·rw [if_neg c,if_neg (by omega)];rfl
 ·have e1:(((F:Int) - (G:Nat) - C)%4294967296)=((ddg f g k:Nat):Int):=by
   have h1:=hd.1
   have h2:=hd.2
   have h3:=LK f g (k+1)
   unfold LB at *
   rcases (show FB f g (k+1)=0∨FB f g (k+1)=1 by omega) with c|c <;> rw [c] at h1 <;> omega
  rw [e1]
  exact (hrow.set k _).congr fun j _=>Ai _ k _ rfl j
set_option maxRecDepth 100000 in
theorem Md (ax ay:Option Addr) (lx ly cx cy x y:Nat) (w:World) (hX:Limbs w ax lx x) (hY:Limbs w ay ly y) (hle:y≤x) (hl:lx≤1073741824) :
  Calls Tryz.prog 116 #[.slice ax lx cx,.slice ay ly cy] w (eF w (x - y)):=by
 obtain ⟨fx,hX⟩:=hX
 obtain ⟨fy,hY⟩:=hY
 have HX:Hid (Cc w ax lx x fx):=hX
 have HY:Hid (Cc w ay ly y fy):=hY
 clear hX hY
 have hly:ly≤lx:=by
  rcases Nat.lt_or_ge lx ly with h|h
  ·have:=HX.out.2.1.y9 HY.out.2.1 h
   rw [HX.out.1,HY.out.1] at this;omega
  ·exact h
 go_enter Tryz.func116,Tryz.ntmps116
 go_wp2_with (refine cZ _ _ 136 138 .u32 4 lx _ rfl rfl Tryz.underlying136 jP rfl rfl (by omega) (by omega) (by omega) ?_;intro w3 hr3 hb3 hz3)
 go_loopw [6,7,8,14] (fun c _ _ i wr=>∃ k:Nat,i = .int .i64 k∧k≤lx∧c = .int .u32 (FB (ext fx lx) (ext fy ly) k)∧Row wr w.heap.size 138 .u32 lx (ext (ddg (ext fx lx) (ext fy ly)) k)∧Below w.heap.size w wr) (fun _ _ _ i _=>lx - (intOf i).toNat)
 case atStart=>exact ⟨0,rfl,by omega,rfl,hr3.congr (fun j _=>by rw [iq (by omega)]),hb3⟩
 case round =>
  obtain ⟨k,rfl,hk,rfl,hrow,hbel⟩:=hrel
  clear hr3 hb3 hz3
  have c0:=LK (ext fx lx) (ext fy ly) k
  have fk':=jw HX.out.2.1.1 k
  have gk':=jw HY.out.2.1.1 k
  have FK:=Lib.hid fk'
  have GK:=Lib.hid gk'
  have fk:=fk'
  have gk:=gk'
  rw [qC] at fk gk
  clear fk' gk'
  have q0:(0:Int)≤(FB (ext fx lx) (ext fy ly) k:Int):=by omega
  have q1:(FB (ext fx lx) (ext fy ly) k:Int)≤1:=by omega
  by_cases hlt:k<lx
  ·rcases HX.out.2.2 with h0|⟨b1,o1,rfl,r1⟩
   ·omega
   have hcx:=(r1.below hbel (r1.lt (by omega))) k hlt
   rw [← lS (f:=fx) hlt] at hcx
   have hold:=hrow.cell (j:=k) (by omega)
   have hfr:=hrow.frozen k
   rw [iq (Nat.le_refl k)] at hold
   have f0:(0:Int)≤(ext fx lx k:Int):=by omega
   have f1:(ext fx lx k:Int)≤4294967295:=by omega
   have g0:(0:Int)≤(ext fy ly k:Int):=by omega
   have g1:(ext fy ly k:Int)≤4294967295:=by omega
   generalize hC:FB (ext fx lx) (ext fy ly) k=C at *
   generalize hF:ext fx lx k=F at *
   have HC:=Lib.hid hC
   have HF:=Lib.hid hF
   clear hC hF
   by_cases hlt2:k<ly
   ·rcases HY.out.2.2 with h0|⟨b2,o2,rfl,r2⟩
    ·omega
    have hcy:=(r2.below hbel (r2.lt (by omega))) k hlt2
    rw [← lS (f:=fy) hlt2] at hcy
    generalize hG:ext fy ly k=G at *
    have HG:=Lib.hid hG
    clear hG
    go_wp2_with (go_at_call 149;refine (uh _ _ _ _ f0 f1 g0 g1 q0 q1).mono ?_;rintro e w' ⟨rfl,rfl⟩)
    go_roundw
    case rel=>exact VH HF.out HG.out HC.out FK.out GK.out hrow hbel hlt
    case measure=>simp [intOf];omega
   ·have hG0:ext fy ly k=0:=iq (by omega)
    have hnn:decide ((k:Int)<(ly:Int))=false:=by simp;omega
    rw [hG0] at g0 g1 GK
    have HG:=Lib.hid hG0
    clear hG0
    go_wp2_with (go_at_call 149;refine (uh _ _ _ _ f0 f1 (by omega) (by omega) q0 q1).mono ?_;rintro e w' ⟨rfl,rfl⟩)
    go_roundw
    case rel=>exact VH (G:=0) HF.out HG.out HC.out FK.out GK.out hrow hbel hlt
    case measure=>simp [intOf];omega
  ·obtain rfl:k=lx:=by omega
   have hs:=ah2 (f:=ext fx k) (g:=ext fy ly) (k:=k) (fun j _=>jw HX.out.2.1.1 j) (fun j _=>jw HY.out.2.1.1 j)
   have hlim : ∀ j,j<k→ext (ddg (ext fx k) (ext fy ly)) k j<LB:=fun j hj=>by
    rw [lS hj];exact (Sv (jw HX.out.2.1.1 j) (jw HY.out.2.1.1 j)).2
   have hfin:lv (ext (ddg (ext fx k) (ext fy ly)) k) k=x - y:=by
    have hlt:=tX hlim
    have e0:=oH (f:=ddg (ext fx k) (ext fy ly)) (Nat.le_refl k)
    rw [e0] at hlt ⊢
    rw [oH (f:=fx) (Nat.le_refl k),oH hly,HX.out.1,HY.out.1] at hs
    rcases (show FB (ext fx k) (ext fy ly) k=0∨FB (ext fx k) (ext fy ly) k=1 by omega) with c|c
    ·rw [c] at hs;omega
    ·rw [c] at hs;omega
   have HF:=Lib.hid hfin
   have HL:=Lib.hid hlim
   have HR:=Lib.hid hrow
   clear hfin hlim hs hrow
   go_wp2_with fail
   refine (wM w w.heap.size k 138 _ _ (by omega) HR.out HL.out hbel).mono ?_
   rintro e w' ⟨a,len,cap,rfl,h1,h2,h3,h4⟩
   rw [HF.out] at h3
   go_wp2
   go_ret
   exact ⟨a,len,cap,rfl,h1,h2,h3,h4⟩
def Me (x y:Nat):Value:=if x<y then .tuple #[.string (bn 0),.bool false] else .tuple #[.string (bn (x - y)),.bool true]
theorem EP {x y:Nat} (h:x<y):Me x y = .tuple #[.string (bn 0),.bool false]:=by unfold Me;rw [if_pos h]
theorem um {x y:Nat} (h:y≤x):Me x y = .tuple #[.string (bn (x - y)),.bool true]:=by unfold Me;rw [if_neg (by omega)]
set_option maxRecDepth 100000 in
theorem sO (a b:ByteArray) (w:World) (ha:a.size≤1073741824) (hb:b.size≤1073741824) :
  Calls Tryz.prog 78 #[.string a,.string b] w fun e w'=>e = .returned (Me (nv a) (nv b))∧Below w.heap.size w w':=by
 go_enter Tryz.func78,Tryz.ntmps78
 go_wp2_with fail
 refine (parse_any a _ ha).mono ?_;rintro e w1 ⟨ax,lx,cx,rfl,lcx,ccx,hX1,hb1⟩
 go_wp2_with fail
 refine (parse_any b _ hb).mono ?_;rintro e w2 ⟨ay,ly,cy,rfl,lcy,ccy,hY,hb2⟩
 have hX:=hX1.below hb2 (Nat.le_refl _)
 have hll:=hX.nN
 have hlm:=hY.nN
 have HX:=Lib.hid hX
 have HY:=Lib.hid hY
 clear hX hY hX1
 go_wp2_with fail
 refine (rM _ _ _ _ _ _ _ _ _ HX.out HY.out (by omega) (by omega)).mono ?_
 rintro e w3 ⟨rfl,hb3⟩
 have HX3:=Lib.hid (HX.out.below hb3 (Nat.le_refl _))
 have HY3:=Lib.hid (HY.out.below hb3 (Nat.le_refl _))
 have aen:Below w.heap.size w w3:=hb1.trans ((hb2.mono hb1.size).trans (hb3.mono (Nat.le_trans hb1.size hb2.size)))
 clear HX HY hb1 hb2 hb3
 by_cases hc:nv a<nv b
 ·have h1:decide (jK (nv a) (nv b)<0)=true:=by rw [lU hc];rfl
  have HN:=Lib.hid (EP hc)
  clear hc
  go_wp2
  go_ret2
  exact ⟨by rw [HN.out];rfl,aen⟩
 ·have h1:decide (jK (nv a) (nv b)<0)=false:=by
   unfold jK;rw [if_neg hc];split <;> rfl
  have hle:nv b≤nv a:=by omega
  have HN:=Lib.hid (um hle)
  have HLE:=Lib.hid hle
  clear hc hle
  go_wp2_with fail
  refine (Md _ _ _ _ _ _ _ _ _ HX3.out HY3.out HLE.out (by omega)).mono ?_
  rintro e w4 ⟨ar,lr,cr,rfl,h2,h3,h4,h5⟩
  have h6:lr≤(a.size+3)/4:=h4.zh (Nat.lt_of_le_of_lt (Nat.sub_le _ _) (FZ a))
  go_wp2_with fail
  refine (Ah _ _ _ _ _ h4 (by omega) h2).mono ?_
  rintro e w5 ⟨rfl,h7⟩
  go_wp2
  go_ret2
  exact ⟨by rw [HN.out];rfl,aen.trans ((h5.mono aen.size).trans (h7.mono (Nat.le_trans aen.size h5.size)))⟩
end Go.Proofs.Ins
