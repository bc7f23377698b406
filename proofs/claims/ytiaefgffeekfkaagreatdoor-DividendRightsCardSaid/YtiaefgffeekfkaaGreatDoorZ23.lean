/- What a check of a group says: plain. -/
import Derived.Test.YtiaefgffeekfkaaGreatDoorZ22
set_option linter.unusedSimpArgs false
set_option linter.unusedVariables false
namespace Go.Proofs.Xe
open Go.RowKit Go.Proofs.Ins
def convV (k:IntKind) (v:V):Option V:=match v with | .c (.int _ n)=>bif inR k n then some (.c (.int k n)) else some (.c (.int k (k.wrap n))) | _=>none
theorem o_conv (E:Env) (tm:Tr V) (σ:St) (K:V→St→Prop) (k:IntKind) (x:O):wpOp E (.conv k x) tm σ K=onV (convV k (x.ev tm)) fun v=>K v σ:=quiet_eq _ _ _ _ rfl fun _ _ h=>by cases h
theorem cv_wrap {k j:IntKind} {n:Int} (h:k.wrap n=n):convV k (.c (.int j n))=some (.c (.int k n)):=by
 unfold convV
 dsimp only
 cases inR k n with
 | true=>rfl
 | false=>rw [cond_false,h]
theorem cv_i64 (j:IntKind) (a:Nat) (h:a≤9223372036854775807):convV .i64 (.c (.int j (.ofNat a)))=some (.c (.int .i64 (.ofNat a))):=cv_wrap (by rw [IntKind.wrap_i64]; simp only [Int.ofNat_eq_natCast]; omega)
theorem cv_u64 (j:IntKind) (a:Nat) (h:a≤18446744073709551615):convV .u64 (.c (.int j (.ofNat a)))=some (.c (.int .u64 (.ofNat a))):=cv_wrap (by rw [IntKind.wrap_u64]; simp only [Int.ofNat_eq_natCast]; omega)
theorem cv_u16 (j:IntKind) (a:Nat):convV .u16 (.c (.int j (.ofNat a)))=some (.c (.int .u16 (.ofNat (a%65536)))):=by
 have e:IntKind.u16.wrap (Int.ofNat a)=Int.ofNat (a%65536):=by rw [IntKind.wrap_u16]; simp only [Int.ofNat_eq_natCast]; omega
 unfold convV
 dsimp only
 have:inR .u16 (Int.ofNat a)=false:=rfl
 rw [this,cond_false,e]
theorem bin_same (op:BinOp) (k:IntKind) (a b:Int):binV op (.c (.int k a)) (.c (.int k b))=binI op k a b:=by
 unfold binV
 simp
theorem b_rem (k:IntKind) (a b:Nat) (h:0<b):binV .rem (.c (.int k (.ofNat a))) (.c (.int k (.ofNat b)))=some (.c (.int k (.ofNat (a%b)))):=by
 rw [bin_same]
 unfold binI binJ
 dsimp only
 rw [decide_eq_false (by simp only [Int.ofNat_eq_natCast]; omega)]
 rfl
theorem quo_eq (k:IntKind) (a b:Nat) (h:0<b) (hw:k.wrap (Int.ofNat (a/b))=Int.ofNat (a/b)):binV .quo (.c (.int k (.ofNat a))) (.c (.int k (.ofNat b)))=some (.c (.int k (.ofNat (a/b)))):=by
 rw [bin_same]
 unfold binI binJ
 dsimp only
 rw [decide_eq_false (by simp only [Int.ofNat_eq_natCast]; omega)]
 show some (V.c (.int k (k.wrap (Int.ofNat (a/b)))))=_
 rw [hw]
theorem div_le' (a b m:Nat) (h:a≤m):a/b≤m:=Nat.le_trans (Nat.div_le_self _ _) h
theorem b_quo_i64 (a b:Nat) (h:0<b) (h2:a≤9223372036854775807):binV .quo (.c (.int .i64 (.ofNat a))) (.c (.int .i64 (.ofNat b)))=some (.c (.int .i64 (.ofNat (a/b)))):=quo_eq _ _ _ h (by have:=div_le' a b _ h2; rw [IntKind.wrap_i64]; simp only [Int.ofNat_eq_natCast]; generalize a/b=q at *; omega)
theorem b_quo_u16 (a b:Nat) (h:0<b) (h2:a≤65535):binV .quo (.c (.int .u16 (.ofNat a))) (.c (.int .u16 (.ofNat b)))=some (.c (.int .u16 (.ofNat (a/b)))):=quo_eq _ _ _ h (by have:=div_le' a b _ h2; rw [IntKind.wrap_u16]; simp only [Int.ofNat_eq_natCast]; generalize a/b=q at *; omega)
theorem bits_of (k:IntKind) (a b:Nat) (ha:a<2 ^ k.bits) (hb:b<2 ^ k.bits):(BitVec.ofInt k.bits (Int.ofNat a) &&& BitVec.ofInt k.bits (Int.ofNat b)).toNat=a &&& b:=by
 show (BitVec.ofInt k.bits (a:Int) &&& BitVec.ofInt k.bits (b:Int)).toNat=_
 rw [BitVec.ofInt_natCast,BitVec.ofInt_natCast,BitVec.toNat_and,BitVec.toNat_ofNat,BitVec.toNat_ofNat,Nat.mod_eq_of_lt ha,Nat.mod_eq_of_lt hb]
theorem bitsO_of (k:IntKind) (a b:Nat) (ha:a<2 ^ k.bits) (hb:b<2 ^ k.bits):(BitVec.ofInt k.bits (Int.ofNat a) ||| BitVec.ofInt k.bits (Int.ofNat b)).toNat=a ||| b:=by
 show (BitVec.ofInt k.bits (a:Int) ||| BitVec.ofInt k.bits (b:Int)).toNat=_
 rw [BitVec.ofInt_natCast,BitVec.ofInt_natCast,BitVec.toNat_or,BitVec.toNat_ofNat,BitVec.toNat_ofNat,Nat.mod_eq_of_lt ha,Nat.mod_eq_of_lt hb]
theorem b_and_i64 (a b:Nat) (ha:a≤9223372036854775807) (hb:b≤9223372036854775807):binV .and (.c (.int .i64 (.ofNat a))) (.c (.int .i64 (.ofNat b)))=some (.c (.int .i64 (.ofNat (a &&& b)))):=by
 rw [bin_same]
 unfold binI binJ
 dsimp only
 rw [bits_of .i64 a b (by show a<18446744073709551616; omega) (by show b<18446744073709551616; omega),IntKind.wrap_i64]
 have h1:a &&& b≤a:=Nat.and_le_left
 refine congrArg (fun z=>some (V.c (B.int .i64 z))) ?_
 simp only [Int.ofNat_eq_natCast]
 generalize a &&& b=q at *
 omega
theorem b_and_u16 (a b:Nat) (ha:a≤65535) (hb:b≤65535):binV .and (.c (.int .u16 (.ofNat a))) (.c (.int .u16 (.ofNat b)))=some (.c (.int .u16 (.ofNat (a &&& b)))):=by
 rw [bin_same]
 unfold binI binJ
 dsimp only
 rw [bits_of .u16 a b (by show a<65536; omega) (by show b<65536; omega),IntKind.wrap_u16]
 have h1:a &&& b≤a:=Nat.and_le_left
 refine congrArg (fun z=>some (V.c (B.int .u16 z))) ?_
 simp only [Int.ofNat_eq_natCast]
 generalize a &&& b=q at *
 omega
theorem b_or_u16 (a b:Nat) (ha:a≤65535) (hb:b≤65535):binV .or (.c (.int .u16 (.ofNat a))) (.c (.int .u16 (.ofNat b)))=some (.c (.int .u16 (.ofNat (a ||| b)))):=by
 rw [bin_same]
 unfold binI binJ
 dsimp only
 rw [bitsO_of .u16 a b (by show a<65536; omega) (by show b<65536; omega),IntKind.wrap_u16]
 have h1:a ||| b<2 ^ 16:=Nat.or_lt_two_pow (by omega) (by omega)
 refine congrArg (fun z=>some (V.c (B.int .u16 z))) ?_
 simp only [Int.ofNat_eq_natCast]
 generalize a ||| b=q at *
 omega
theorem b_add_u16 (a b:Nat):binV .add (.c (.int .u16 (.ofNat a))) (.c (.int .u16 (.ofNat b)))=some (.c (.int .u16 (.ofNat ((a+b)%65536)))):=by
 rw [bin_same]
 unfold binI binJ
 dsimp only
 rw [IntKind.wrap_u16]
 refine congrArg (fun z=>some (V.c (B.int .u16 z))) ?_
 simp only [Int.ofNat_eq_natCast]
 omega
theorem b_mul_u16 (a b:Nat):binV .mul (.c (.int .u16 (.ofNat a))) (.c (.int .u16 (.ofNat b)))=some (.c (.int .u16 (.ofNat (a*b%65536)))):=by
 rw [bin_same]
 unfold binI binJ
 dsimp only
 rw [IntKind.wrap_u16,show Int.ofNat a*Int.ofNat b=((a*b:Nat):Int) from rfl]
 refine congrArg (fun z=>some (V.c (B.int .u16 z))) ?_
 simp only [Int.ofNat_eq_natCast]
 omega
theorem b_mul (a b:Nat) (h:a*b≤9223372036854775807):binV .mul (.c (.int .i64 (.ofNat a))) (.c (.int .i64 (.ofNat b)))=some (.c (.int .i64 (.ofNat (a*b)))):=by
 show mkI .i64 (Int.ofNat a*Int.ofNat b)=_
 rw [show Int.ofNat a*Int.ofNat b=Int.ofNat (a*b) from rfl,mkI_nat h]
theorem b_shr (k j:IntKind) (a c:Nat):binV .shr (.c (.int k (.ofNat a))) (.c (.int j (.ofNat c)))=some (.c (.int k (.ofNat (a/2 ^ min c k.bits)))):=by
 have e:binV .shr (.c (.int k (.ofNat a))) (.c (.int j (.ofNat c)))=binS .shr k (.ofNat a) (.ofNat c):=by
  unfold binV
  dsimp only
  by_cases h:k=j
  ·subst h
   rw [decide_eq_true rfl]; rfl
  ·rw [decide_eq_false h]; rfl
 rw [e]
 unfold binS
 dsimp only
 rw [decide_eq_false (by simp only [Int.ofNat_eq_natCast]; omega)]
 show some (V.c (.int k (Int.fdiv (Int.ofNat a) (2 ^ min (Int.ofNat c).toNat k.bits))))=_
 congr 3
 rw [show (Int.ofNat c).toNat=c from rfl,show (2:Int) ^ min c k.bits=((2 ^ min c k.bits:Nat):Int) by simp,Int.ofNat_eq_natCast,Int.fdiv_eq_ediv_of_nonneg _ (Int.natCast_nonneg _)]
 rfl
theorem bits_i64:IntKind.bits .i64=64:=rfl
theorem bits_u16:IntKind.bits .u16=16:=rfl
theorem bits_u64:IntKind.bits .u64=64:=rfl
theorem b_eqlk (k:IntKind) (a b:Int):binV .eql (.c (.int k a)) (.c (.int k b))=some (.c (.bool (decide (a=b)))):=by rw [bin_same]; rfl
theorem b_neqk (k:IntKind) (a b:Int):binV .neq (.c (.int k a)) (.c (.int k b))=some (.c (.bool (!decide (a=b)))):=by rw [bin_same]; rfl
attribute [go_sem] o_conv cv_i64 cv_u64 cv_u16 b_rem b_quo_i64 b_quo_u16 b_and_i64 b_and_u16 b_or_u16 b_add_u16 b_mul_u16 b_mul b_shr bits_i64 bits_u16 bits_u64 b_eqlk b_neqk
end Go.Proofs.Xe
namespace Go.Proofs.Ins
open Go.RowKit
def Own (w:World) (b sz n:Nat) (F:Nat→List Value):Prop :=
 ∃ c T,w.heap[b]?=some (.cells c T (0,0))∧c.size=n*sz∧∀ i j,i<n→j<sz→c[i*sz+j]?=(F i)[j]?
theorem Own.lt {w:World} {b sz n:Nat} {F:Nat→List Value} (h:Own w b sz n F):b<w.heap.size:=by
 obtain ⟨c,T,hc,_⟩:=h
 exact (Array.getElem?_eq_some_iff.mp hc).1
theorem Own.frozen {w:World} {b sz n:Nat} {F:Nat→List Value} (h:Own w b sz n F) (j:Nat):w.frozen? ⟨b,j,none⟩=false:=by
 obtain ⟨c,T,hc,_⟩:=h
 exact frozen_of_row w b j c T hc
theorem Own.block {w w' : World} {b sz n:Nat} {F:Nat→List Value} (h:Own w b sz n F) (hb:w'.heap[b]?=w.heap[b]?):Own w' b sz n F:=by
 obtain ⟨c,T,hc,r⟩:=h
 exact ⟨c,T,hb.trans hc,r⟩
theorem Own.below {w w' : World} {b sz n B:Nat} {F:Nat→List Value} (h:Own w b sz n F) (hb:Below B w w') (hB:b<B):Own w' b sz n F:=h.block (hb.block b hB)
theorem Own.on {w w' : World} {b sz n:Nat} {F:Nat→List Value} (h:Own w b sz n F) (hb:Below w.heap.size w w'):Own w' b sz n F:=h.below hb h.lt
theorem Own.alloc {w:World} {b sz n:Nat} {F:Nat→List Value} (h:Own w b sz n F) (o:Obj):Own (w.alloc o) b sz n F:=h.block (Below.heap_alloc w o b h.lt)
theorem Own.setOther {w:World} {b sz n:Nat} {F:Nat→List Value} (h:Own w b sz n F) (a:Addr) (v:Value) (ha:b≠a.block):Own (w.setCell a v) b sz n F:=h.block (heap_setCell_other w a b v ha)
theorem Own.congr {w:World} {b sz n:Nat} {F G:Nat→List Value} (h:Own w b sz n F) (hg : ∀ i,i<n→F i=G i):Own w b sz n G:=by
 obtain ⟨c,T,hc,hn,hf⟩:=h
 exact ⟨c,T,hc,hn,fun i j hi hj=>by rw [← hg i hi]; exact hf i j hi hj⟩
theorem Own.cell {w:World} {b sz n:Nat} {F:Nat→List Value} (h:Own w b sz n F) {i j:Nat} (hi:i<n) (hj:j<sz):w.cell? ⟨b,i*sz+j,none⟩=(F i)[j]?:=by
 obtain ⟨c,T,hc,hn,hf⟩:=h
 rw [cell_of_row w b _ c T (0,0) hc,hf i j hi hj]
theorem Own.reads {w:World} {b sz n:Nat} {F:Nat→List Value} (h:Own w b sz n F):SReads w b 0 sz n F:=fun i j hi hj=>by
 rw [Nat.zero_add]; exact h.cell hi hj
theorem Own.arg {w:World} {b sz n:Nat} {F:Nat→List Value} (h:Own w b sz n F):SArg w (some ⟨b,0,none⟩) n sz F:=.inr ⟨b,0,rfl,h.lt,h.reads⟩
theorem cells_set {c:Array Value} {k:Nat} {v:Value} {m:Nat} : (c.setIfInBounds k v)[m]?=if k=m then (if m<c.size then some v else none) else c[m]?:=by
 rw [Array.getElem?_setIfInBounds]
 by_cases e:k=m
 ·subst e; rfl
 ·rw [if_neg e,if_neg e]
def updF (F:Nat→List Value) (i:Nat) (x:List Value) (k:Nat):List Value:=if k=i then x else F k
theorem updF_same (F:Nat→List Value) (i:Nat) (x:List Value):updF F i x i=x:=if_pos rfl
theorem updF_other {F:Nat→List Value} {i k:Nat} {x:List Value} (h:k≠i):updF F i x k=F k:=if_neg h
theorem Own.setAt {w:World} {b sz n:Nat} {F:Nat→List Value} (h:Own w b sz n F) (i j:Nat) (v:Value) (hi:i<n) (hj:j<sz) (hl:(F i).length=sz) :
  Own (w.setCell ⟨b,i*sz+j,none⟩ v) b sz n (updF F i ((F i).set j v)):=by
 obtain ⟨c,T,hc,hn,hf⟩:=h
 refine ⟨c.setIfInBounds (i*sz+j) v,T,?_,by simpa using hn,fun i' j' hi' hj'=>?_⟩
 ·rw [World.setCell]
  simp only [Array.getElem?_modify]
  simp [hc]
 ·have hlt:i' * sz+j' < c.size:=by
   rw [hn]
   have:=Nat.mul_le_mul_right sz (show i' + 1≤n by omega)
   rw [Nat.succ_mul] at this; omega
  rw [cells_set]
  by_cases e:i*sz+j=i' * sz+j'
  ·have e1:i=i':=by
    have h1:(i*sz+j)/sz=i:=by rw [Nat.mul_comm,Nat.mul_add_div (by omega),Nat.div_eq_of_lt hj,Nat.add_zero]
    have h2:(i' * sz+j')/sz=i':=by rw [Nat.mul_comm,Nat.mul_add_div (by omega),Nat.div_eq_of_lt hj',Nat.add_zero]
    rw [← h1,← h2,e]
   subst e1
   obtain rfl:j=j':=by omega
   rw [if_pos rfl,if_pos hlt,updF_same,List.getElem?_set]
   simp [hl,hj]
  ·rw [if_neg e,hf i' j' hi' hj']
   by_cases e1:i' = i
   ·subst e1
    rw [updF_same,List.getElem?_set,if_neg (by omega)]
   ·rw [updF_other e1]
theorem Own.set1 {w:World} {b n:Nat} {F:Nat→List Value} (h:Own w b 1 n F) (i:Nat) (v:Value) (hi:i<n) (hl:(F i).length=1):Own (w.setCell ⟨b,i,none⟩ v) b 1 n (updF F i [v]):=by
 have:=h.setAt i 0 v hi (by omega) hl
 rw [Nat.mul_one,Nat.add_zero] at this
 match hF:F i,hl with
 | [x],_=>rw [hF] at this; exact this
theorem Own.set3 {w:World} {b n:Nat} {F:Nat→List Value} (h:Own w b 3 n F) (i:Nat) (x y z:Value) (hi:i<n) (hl:(F i).length=3) :
  Own (((w.setCell ⟨b,i*3,none⟩ x).setCell ⟨b,i*3+1,none⟩ y).setCell ⟨b,i*3+2,none⟩ z) b 3 n (updF F i [x,y,z]):=by
 have h1:=h.setAt i 0 x hi (by omega) hl
 have h2:=h1.setAt i 1 y hi (by omega) (by rw [updF_same]; simpa using hl)
 have h3:=h2.setAt i 2 z hi (by omega) (by rw [updF_same,updF_same]; simpa using hl)
 rw [Nat.add_zero] at h3
 refine h3.congr fun k hk=>?_
 match hF:F i,hl with
 | [p,q,r],_ =>
  by_cases e:k=i
  ·subst e; simp [updF,hF]
  ·simp [updF,e]
theorem madeCells_get (z:Array Value) (m k:Nat) (hk:k<m) (hz:0<z.size):(madeCells z m)[k]?=z[k%z.size]?:=by
 unfold madeCells
 have h2:k%z.size<z.size:=Nat.mod_lt _ hz
 simp [hk,h2,getElem!_pos]
theorem info_made {P:Program} {T:TypeId} {zs:List Value} {bytes:Nat} (h:(P.info? T).map (fun i=>(i.zero.map (fun z=>z.cells.toList),i.size,i.bytes))=some (some zs,zs.length,bytes)) :
  ∃ i z,P.info? T=some i∧i.zero=some z∧z.cells.toList=zs∧i.size=zs.length∧i.bytes=bytes:=by
 cases hi:P.info? T with
 | none=>rw [hi] at h; cases h
 | some i =>
  rw [hi] at h
  simp only [Option.map_some,Option.some.injEq,Prod.mk.injEq] at h
  obtain ⟨h1,h2,h3⟩:=h
  cases hz:i.zero with
  | none=>rw [hz] at h1; cases h1
  | some z =>
   rw [hz] at h1
   exact ⟨i,z,rfl,hz,Option.some.inj h1,h2,h3⟩
theorem wpList_makeS {P:Program} {w:World} {ops:Array Oper} {rest:List Oper} {o:Oper} {a:Act} {Q:Exit→Act→World→Prop}
  (l c:Operand) (t e:TypeId) (zs:List Value) (bytes n:Nat) (C:Int) (hg:o.guard=none) (hop:o.op=Op.makeSlice t l c)
  (h1:P.underlying t=some (.slice e)) (h2:(P.info? e).map (fun i=>(i.zero.map (fun z=>z.cells.toList),i.size,i.bytes))=some (some zs,zs.length,bytes)) (hzs:0<zs.length)
  (hl:a.eval l = .int .i64 C) (hc:a.eval c = .int .i64 C) (hC:C=(n:Int)) (hn:n≤4294967296) (hb:bytes≤1024)
  (hK : ∀ w',Own w' w.heap.size zs.length n (fun _=>zs)→Below w.heap.size w w'→w'.heap.size=w.heap.size+1→wpList P ops Q rest (a.put o.dst (.slice (some ⟨w.heap.size,0,none⟩) n n)) w') :
  wpList P ops Q (o::rest) a w:=by
 obtain ⟨i,z,hi,hz,hzc,hs,hbb⟩:=info_made h2
 refine wpList_plain hg fun K hK'=>?_
 have hrun:=run_make (P:=P) w t e i _ h1 hi hz .i64 .i64 n n (by omega) (by omega) (by
  rw [hbb]
  have h5:=Nat.mul_le_mul hb hn
  omega) (by omega)
 subst hC
 unfold Oper.wp
 simp [execOp,hop,hl,hc,hrun,Result.andThen]
 rw [hs]
 have hzz:z.cells.size=zs.length:=by rw [← Array.length_toList,hzc]
 refine hK' _ _ (hK _ ⟨madeCells z.cells (n*zs.length),e,heap_alloc_new w _,size_madeCells _ _,fun i j hi hj=>?_⟩ ((Below.refl _ _).alloc (Nat.le_refl _) _) (by simp))
 have hlt:i*zs.length+j<n*zs.length:=by
  have:=Nat.mul_le_mul_right zs.length (show i+1≤n by omega)
  rw [Nat.succ_mul] at this; omega
 rw [madeCells_get _ _ _ hlt (by omega),hzz,Nat.mul_comm,Nat.mul_add_mod,Nat.mod_eq_of_lt hj,← hzc,Array.getElem?_toList]
theorem duo (w:World) (vs us:Array Value) (T U:TypeId):Blk ((w.alloc (.cells vs T)).alloc (.cells us U)) w.heap.size vs∧Blk ((w.alloc (.cells vs T)).alloc (.cells us U)) (w.heap.size+1) us∧Below w.heap.size w ((w.alloc (.cells vs T)).alloc (.cells us U)):=by
 refine ⟨(Blk.new w vs T).alloc _,?_,((Below.refl _ _).alloc (Nat.le_refl _) _).alloc (by simp) _⟩
 have:=Blk.new (w.alloc (.cells vs T)) us U
 rwa [World.size_alloc] at this
theorem SOwn.on {w w' : World} {base:Nat} {T:TypeId} {sz:Nat} {v:Value} {n:Nat} {F:Nat→List Value} (h:SOwn w base T sz v n F) (hb:Below w.heap.size w w'):SOwn w' base T sz v n F:=h.below hb (Nat.le_refl _)
def ix {α:Type} [Inhabited α] (l:List α) (i:Nat):α:=l.getD i default
theorem ix_lt {α:Type} [Inhabited α] {l:List α} {i:Nat} (h:i<l.length):ix l i=l[i]:=by unfold ix; simp [List.getD,h]
theorem ix_append {α:Type} [Inhabited α] (l:List α) (x:α) (i:Nat):ix (l ++ [x]) i=if i<l.length then ix l i else if i=l.length then x else default:=by
 unfold ix
 by_cases h:i<l.length
 ·simp [List.getD,h,List.getElem?_append_left h]
 ·rw [if_neg h]
  by_cases e:i=l.length
  ·subst e; simp
  ·rw [if_neg e]; simp [List.getD,List.getElem?_append_right (Nat.le_of_not_lt h)]
   rw [List.getElem?_eq_none]; rfl
   simp; omega
theorem ix_mem {α:Type} [Inhabited α] {l:List α} {i:Nat} (h:i<l.length):ix l i∈l:=by rw [ix_lt h]; exact List.getElem_mem h
theorem ix_take {α:Type} [Inhabited α] {l:List α} {i k:Nat} (h:i<k):ix (l.take k) i=ix l i:=by unfold ix; simp [List.getD,List.getElem?_take,h]
theorem take_succ_ix {α:Type} [Inhabited α] {l:List α} {k:Nat} (h:k<l.length):l.take (k+1)=l.take k ++ [ix l k]:=by
 rw [ix_lt h,List.take_add_one]; simp [h]
structure C5 where
 h:Int
 r:Int
 a:R3
instance:Inhabited C5:=⟨⟨0,0,default⟩⟩
def C5.c (x:C5):List Value:=[.int .i64 x.h,.int .i64 x.r,.bool x.a.n,.string x.a.s,.string x.a.d]
structure Prt where
 k:Int
 b:Bool
 a:R3
instance:Inhabited Prt:=⟨⟨0,false,default⟩⟩
def Prt.c (x:Prt):List Value:=[.int .i64 x.k,.bool x.b,.bool x.a.n,.string x.a.s,.string x.a.d]
structure Lg where
 e:Int
 k:Int
instance:Inhabited Lg:=⟨⟨0,0⟩⟩
def Lg.c (x:Lg):List Value:=[.int .i64 x.e,.int .i64 x.k]
abbrev Tier:=List Prt
abbrev Agr:=List Tier
structure Est where
 m:R3
 c:List C5
 a:List Agr
instance:Inhabited Est:=⟨⟨default,[],[]⟩⟩
structure Dbt where
 w:R3
 l:List Lg
instance:Inhabited Dbt:=⟨⟨default,[]⟩⟩
structure Grp where
 e:List Est
 d:List Dbt
instance:Inhabited Grp:=⟨⟨[],[]⟩⟩
def Sl (w:World) (p:Nat→Prop) (sz:Nat) (v:Value) (n:Nat) (G:Nat→List Value):Prop :=
 ∃ a cap,v = .slice a n cap∧n≤cap∧cap≤9223372036854775807∧(n=0∨∃ b off,a=some ⟨b,off,none⟩∧p b∧b<w.heap.size∧SReads w b off sz n G)∧∀ i,i<n→(G i).length=sz
theorem Sl.nil (w:World) (p:Nat→Prop) (sz:Nat) (G:Nat→List Value):Sl w p sz (.slice none 0 0) 0 G:=⟨none,0,rfl,Nat.le_refl _,by omega,.inl rfl,fun i hi=>by omega⟩
theorem Sl.mono {w:World} {p q:Nat→Prop} {sz:Nat} {v:Value} {n:Nat} {G:Nat→List Value} (h:Sl w p sz v n G) (hp : ∀ b,p b→q b):Sl w q sz v n G:=by
 obtain ⟨a,cap,hv,h1,h2,h3,h4⟩:=h
 refine ⟨a,cap,hv,h1,h2,?_,h4⟩
 rcases h3 with h3 | ⟨b,off,ha,hb,r⟩
 ·exact .inl h3
 ·exact .inr ⟨b,off,ha,hp b hb,r⟩
theorem Sl.keep {w w' : World} {p:Nat→Prop} {sz:Nat} {v:Value} {n:Nat} {G:Nat→List Value} (h:Sl w p sz v n G) (hb : ∀ b,p b→b<w.heap.size→w'.heap[b]?=w.heap[b]?):Sl w' p sz v n G:=by
 obtain ⟨a,cap,hv,h1,h2,h3,h4⟩:=h
 refine ⟨a,cap,hv,h1,h2,?_,h4⟩
 rcases h3 with h3 | ⟨b,off,ha,hpb,hl,r⟩
 ·exact .inl h3
 ·have e:=hb b hpb hl
  refine .inr ⟨b,off,ha,hpb,?_,fun i j hi hj=>?_⟩
  ·by_cases hlt:b<w'.heap.size
   ·exact hlt
   ·rw [Array.getElem?_eq_none (by omega),Array.getElem?_eq_getElem hl] at e; cases e
  ·rw [World.cell?_of_block (w:=w) (a:=⟨b,off+i*sz+j,none⟩) e]; exact r i j hi hj
theorem Sl.congr {w:World} {p:Nat→Prop} {sz:Nat} {v:Value} {n:Nat} {G G' : Nat→List Value} (h:Sl w p sz v n G) (hg : ∀ i,i<n→G i=G' i):Sl w p sz v n G':=by
 obtain ⟨a,cap,hv,h1,h2,h3,h4⟩:=h
 refine ⟨a,cap,hv,h1,h2,?_,fun i hi=>by rw [← hg i hi]; exact h4 i hi⟩
 rcases h3 with h3 | ⟨b,off,ha,hpb,hl,r⟩
 ·exact .inl h3
 ·exact .inr ⟨b,off,ha,hpb,hl,fun i j hi hj=>by rw [← hg i hi]; exact r i j hi hj⟩
theorem Sl.arg {w:World} {p:Nat→Prop} {sz:Nat} {v:Value} {n:Nat} {G:Nat→List Value} (h:Sl w p sz v n G) : ∃ a cap,v = .slice a n cap∧n≤cap∧cap≤9223372036854775807∧SArg w a n sz G:=by
 obtain ⟨a,cap,hv,h1,h2,h3,h4⟩:=h
 refine ⟨a,cap,hv,h1,h2,?_⟩
 rcases h3 with h3 | ⟨b,off,ha,hpb,hl,r⟩
 ·exact .inl h3
 ·exact .inr ⟨b,off,ha,hl,r⟩
def RL {α:Type} [Inhabited α] (w:World) (p:Nat→Prop) (sz:Nat) (Q:List Value→α→Prop) (v:Value) (l:List α):Prop :=
 ∃ G,Sl w p sz v l.length G∧∀ i,i<l.length→Q (G i) (ix l i)
theorem RL.nil {α:Type} [Inhabited α] (w:World) (p:Nat→Prop) (sz:Nat) (Q:List Value→α→Prop):RL w p sz Q (.slice none 0 0) []:=⟨fun _=>[],Sl.nil _ _ _ _,fun i hi=>by cases hi⟩
theorem RL.imp {α:Type} [Inhabited α] {w w' : World} {p q:Nat→Prop} {sz:Nat} {Q Q' : List Value→α→Prop} {v:Value} {l:List α} (h:RL w p sz Q v l) (hp : ∀ b,p b→q b)
  (hb : ∀ b,p b→b<w.heap.size→w'.heap[b]?=w.heap[b]?) (hQ : ∀ c x,Q c x→Q' c x):RL w' q sz Q' v l:=by
 obtain ⟨G,h1,h2⟩:=h
 exact ⟨G,(h1.keep hb).mono hp,fun i hi=>hQ _ _ (h2 i hi)⟩
def QV {α:Type} (c:α→List Value) (cs:List Value) (x:α):Prop:=cs=c x
theorem RL.plain {α:Type} [Inhabited α] {w:World} {p:Nat→Prop} {sz:Nat} {c:α→List Value} {v:Value} {l:List α} (h:RL w p sz (QV c) v l):Sl w p sz v l.length (fun i=>c (ix l i)):=by
 obtain ⟨G,h1,h2⟩:=h
 exact h1.congr h2
def RParts (w:World) (p:Nat→Prop) (v:Value) (l:List Prt):Prop:=RL w p 5 (QV Prt.c) v l
def RClaims (w:World) (p:Nat→Prop) (v:Value) (l:List C5):Prop:=RL w p 5 (QV C5.c) v l
def RLegs (w:World) (p:Nat→Prop) (v:Value) (l:List Lg):Prop:=RL w p 2 (QV Lg.c) v l
def QTier (w:World) (p:Nat→Prop) (cs:List Value) (t:Tier):Prop:=∃ v,cs=[v]∧RParts w p v t
def RTiers (w:World) (p:Nat→Prop) (v:Value) (l:Agr):Prop:=RL w p 1 (QTier w p) v l
def QAgr (w:World) (p:Nat→Prop) (cs:List Value) (a:Agr):Prop:=∃ v,cs=[v]∧RTiers w p v a
def RAgrs (w:World) (p:Nat→Prop) (v:Value) (l:List Agr):Prop:=RL w p 1 (QAgr w p) v l
def QEst (w:World) (p:Nat→Prop) (cs:List Value) (e:Est):Prop:=∃ cv av,cs=[.bool e.m.n,.string e.m.s,.string e.m.d,cv,av]∧RClaims w p cv e.c∧RAgrs w p av e.a
def REsts (w:World) (p:Nat→Prop) (v:Value) (l:List Est):Prop:=RL w p 5 (QEst w p) v l
def QDbt (w:World) (p:Nat→Prop) (cs:List Value) (d:Dbt):Prop:=∃ lv,cs=[.bool d.w.n,.string d.w.s,.string d.w.d,lv]∧RLegs w p lv d.l
def RDbts (w:World) (p:Nat→Prop) (v:Value) (l:List Dbt):Prop:=RL w p 4 (QDbt w p) v l
def RGrp (w:World) (p:Nat→Prop) (v:Value) (g:Grp):Prop:=∃ ev dv,v = .agg #[ev,dv]∧REsts w p ev g.e∧RDbts w p dv g.d
structure Keeps (p:Nat→Prop) (w w' : World):Prop where
 block : ∀ b,p b→b<w.heap.size→w'.heap[b]?=w.heap[b]?
theorem Keeps.of_below {p:Nat→Prop} {w w' : World} (h:Below w.heap.size w w'):Keeps p w w':=⟨fun b _ hb=>h.block b hb⟩
section
variable {w w' : World} {p q:Nat→Prop} {v:Value} {cs:List Value}
theorem RParts.keep {l:List Prt} (h:RParts w p v l) (k:Keeps p w w') (hp : ∀ b,p b→q b):RParts w' q v l:=RL.imp h hp k.block fun _ _ h=>h
theorem RClaims.keep {l:List C5} (h:RClaims w p v l) (k:Keeps p w w') (hp : ∀ b,p b→q b):RClaims w' q v l:=RL.imp h hp k.block fun _ _ h=>h
theorem RLegs.keep {l:List Lg} (h:RLegs w p v l) (k:Keeps p w w') (hp : ∀ b,p b→q b):RLegs w' q v l:=RL.imp h hp k.block fun _ _ h=>h
theorem QTier.keep {t:Tier} (h:QTier w p cs t) (k:Keeps p w w') (hp : ∀ b,p b→q b):QTier w' q cs t:=by obtain ⟨v,e,h⟩:=h; exact ⟨v,e,h.keep k hp⟩
theorem RTiers.keep {l:Agr} (h:RTiers w p v l) (k:Keeps p w w') (hp : ∀ b,p b→q b):RTiers w' q v l:=RL.imp h hp k.block fun _ _ h=>h.keep k hp
theorem QAgr.keep {t:Agr} (h:QAgr w p cs t) (k:Keeps p w w') (hp : ∀ b,p b→q b):QAgr w' q cs t:=by obtain ⟨v,e,h⟩:=h; exact ⟨v,e,h.keep k hp⟩
theorem RAgrs.keep {l:List Agr} (h:RAgrs w p v l) (k:Keeps p w w') (hp : ∀ b,p b→q b):RAgrs w' q v l:=RL.imp h hp k.block fun _ _ h=>h.keep k hp
theorem QEst.keep {t:Est} (h:QEst w p cs t) (k:Keeps p w w') (hp : ∀ b,p b→q b):QEst w' q cs t:=by obtain ⟨v,u,e,h1,h2⟩:=h; exact ⟨v,u,e,h1.keep k hp,h2.keep k hp⟩
theorem REsts.keep {l:List Est} (h:REsts w p v l) (k:Keeps p w w') (hp : ∀ b,p b→q b):REsts w' q v l:=RL.imp h hp k.block fun _ _ h=>h.keep k hp
theorem QDbt.keep {t:Dbt} (h:QDbt w p cs t) (k:Keeps p w w') (hp : ∀ b,p b→q b):QDbt w' q cs t:=by obtain ⟨v,e,h1⟩:=h; exact ⟨v,e,h1.keep k hp⟩
theorem RDbts.keep {l:List Dbt} (h:RDbts w p v l) (k:Keeps p w w') (hp : ∀ b,p b→q b):RDbts w' q v l:=RL.imp h hp k.block fun _ _ h=>h.keep k hp
theorem RGrp.keep {g:Grp} (h:RGrp w p v g) (k:Keeps p w w') (hp : ∀ b,p b→q b):RGrp w' q v g:=by obtain ⟨a,b,e,h1,h2⟩:=h; exact ⟨a,b,e,h1.keep k hp,h2.keep k hp⟩
theorem RParts.on {l:List Prt} (h:RParts w p v l) (k:Below w.heap.size w w'):RParts w' p v l:=h.keep (.of_below k) fun _ h=>h
theorem RClaims.on {l:List C5} (h:RClaims w p v l) (k:Below w.heap.size w w'):RClaims w' p v l:=h.keep (.of_below k) fun _ h=>h
theorem RLegs.on {l:List Lg} (h:RLegs w p v l) (k:Below w.heap.size w w'):RLegs w' p v l:=h.keep (.of_below k) fun _ h=>h
theorem RTiers.on {l:Agr} (h:RTiers w p v l) (k:Below w.heap.size w w'):RTiers w' p v l:=h.keep (.of_below k) fun _ h=>h
theorem RAgrs.on {l:List Agr} (h:RAgrs w p v l) (k:Below w.heap.size w w'):RAgrs w' p v l:=h.keep (.of_below k) fun _ h=>h
theorem REsts.on {l:List Est} (h:REsts w p v l) (k:Below w.heap.size w w'):REsts w' p v l:=h.keep (.of_below k) fun _ h=>h
theorem RDbts.on {l:List Dbt} (h:RDbts w p v l) (k:Below w.heap.size w w'):RDbts w' p v l:=h.keep (.of_below k) fun _ h=>h
theorem RGrp.on {g:Grp} (h:RGrp w p v g) (k:Below w.heap.size w w'):RGrp w' p v g:=h.keep (.of_below k) fun _ h=>h
end
theorem Sl.get {w:World} {p:Nat→Prop} {sz:Nat} {a:Option Addr} {n cap:Nat} {G:Nat→List Value} (h:Sl w p sz (.slice a n cap) n G) (hn:0<n) :
  ∃ b off,a=some ⟨b,off,none⟩∧p b∧b<w.heap.size∧SReads w b off sz n G:=by
 obtain ⟨a',cap',hv,h1,h2,h3,h4⟩:=h
 simp only [Value.slice.injEq] at hv
 obtain ⟨rfl,-,rfl⟩:=hv
 rcases h3 with h3 | h3
 ·omega
 ·exact h3
theorem Sl.form {w:World} {p:Nat→Prop} {sz:Nat} {v:Value} {n:Nat} {G:Nat→List Value} (h:Sl w p sz v n G) : ∃ a cap,v = .slice a n cap∧n≤cap∧cap≤9223372036854775807:=by
 obtain ⟨a,cap,hv,h1,h2,_⟩:=h
 exact ⟨a,cap,hv,h1,h2⟩
theorem SOwn.sl {w:World} {base:Nat} {T:TypeId} {sz:Nat} {v:Value} {n:Nat} {F:Nat→List Value} (h:SOwn w base T sz v n F):Sl w (fun b=>base≤b) sz v n F:=by
 rcases h.form with ⟨rfl,rfl⟩ | ⟨g,cap,rfl,hb,hn,hm,hl,hr⟩
 ·exact Sl.nil _ _ _ _
 ·exact ⟨_,cap,rfl,hn,hm,.inr ⟨g,0,rfl,hb,hl,hr⟩,h.2⟩
theorem Own.sl {w:World} {b sz n:Nat} {F:Nat→List Value} (h:Own w b sz n F) (hn:n≤9223372036854775807) (hl : ∀ i,i<n→(F i).length=sz):Sl w (fun x=>x=b) sz (.slice (some ⟨b,0,none⟩) n n) n F :=
 ⟨_,n,rfl,Nat.le_refl _,hn,.inr ⟨b,0,rfl,rfl,h.lt,h.reads⟩,hl⟩
end Go.Proofs.Ins
namespace Go.Proofs.Xe
open Go.RowKit Go.Proofs.Ins
def absB (N:Nat):Value→B
 | .int k n=>.int k n
 | .bool b=>.bool b
 | .string s=>.str s
 | .pointer (some a)=>if a.spot=none∧a.block<N then .ptr a.block a.off else .any
 | .pointer none=>.nilp
 | .slice (some a) n K=>if K≤9223372036854775807 then (if a.spot=none∧a.block<N∧n≤K then .sl a.block a.off n .any else if n=0 then .sl 0 0 0 .any else .any) else .any
 | .slice none 0 0=>.nils
 | _=>.any
def Ph.id (N:Nat):Ph:=fun b=>if b<N then some (b,0) else none
theorem absB_RB (N:Nat) (v:Value) (h:(absB N v).kn=true):RB (Ph.id N) (absB N v) v:=by
 unfold absB at h ⊢
 split at h <;> try rfl
 ·next a =>
  split at h
  ·next hc =>
   rw [if_pos hc]
   obtain ⟨b,o,s⟩:=a
   obtain ⟨h1,h2⟩:=hc
   dsimp only at h1 h2
   subst h1
   exact ⟨(b,0),if_pos h2,rfl⟩
  ·cases h
 ·next a n K =>
  split at h
  ·next hK =>
   rw [if_pos hK]
   split at h
   ·next hc =>
    rw [if_pos hc]
    obtain ⟨b,o,s⟩:=a
    obtain ⟨h1,h2,h3⟩:=hc
    dsimp only at h1 h2
    subst h1
    exact .inl ⟨(b,0),K,if_pos h2,rfl,h3,hK,trivial⟩
   ·next hc =>
    rw [if_neg hc]
    split at h
    ·next h0 =>
     subst h0
     rw [if_pos rfl]
     exact .inr ⟨rfl,rfl,a,K,rfl,hK⟩
    ·cases h
  ·cases h
 ·cases h
def St.of (w:World):St:=⟨.fn fun b=>match w.heap[b]? with | some (.cells cs _ _)=>some ⟨cs.toList.map (absB w.heap.size),some (0,1)⟩ | _=>none,w.heap.size⟩
theorem WF.of (w:World):WF (St.of w):=fun b hb=>by
 have hb:w.heap.size≤b:=hb
 show (match w.heap[b]? with | some (.cells cs _ _)=>some _ | _=>none)=none
 rw [Array.getElem?_eq_none hb]
theorem Rel.of (w:World):Rel w.heap.size w (Ph.id w.heap.size) (St.of w) w where
 n0:=Nat.le_refl _
 bel:=Below.refl _ _
 inj:=fun b b' p p' h1 _ _ hN _ _=>by
  unfold Ph.id at h1
  split at h1
  ·next hlt=>cases h1; exact absurd hlt (Nat.not_lt.mpr hN)
  ·cases h1
 lo:=fun b p h=>by
  unfold Ph.id at h
  split at h
  ·next hlt=>cases h; exact hlt
  ·cases h
 fz:=fun b k p hk _ _=>by
  have hk:(match w.heap[b]? with | some (.cells cs _ _)=>some (⟨cs.toList.map (absB w.heap.size),some (0,1)⟩:Bk) | _=>none)=some k:=hk
  split at hk
  ·cases hk; exact ⟨rfl,rfl⟩
  ·cases hk
 blk:=fun b k p hk hp=>by
  have hp' : p.1=b∧b<w.heap.size:=by
   unfold Ph.id at hp
   split at hp
   ·next hlt=>cases hp; exact ⟨rfl,hlt⟩
   ·cases hp
  have hk:(match w.heap[b]? with | some (.cells cs _ _)=>some (⟨cs.toList.map (absB w.heap.size),some (0,1)⟩:Bk) | _=>none)=some k:=hk
  split at hk
  ·next cs T z hcs =>
   cases hk
   refine .inr (.inr ⟨rfl,rfl,fun j x hj hx=>?_⟩)
   simp only [List.getElem?_map,Option.map_eq_some_iff] at hj
   obtain ⟨v,hv,rfl⟩:=hj
   refine ⟨v,?_,absB_RB _ _ hx⟩
   rw [hp'.1]
   unfold World.cell?
   rw [hcs]
   simpa using hv
  ·cases hk
 nxt:=fun b hb=>by
  have hb:w.heap.size≤b:=hb
  refine ⟨if_neg (by omega),?_⟩
  show (match w.heap[b]? with | some (.cells cs _ _)=>some _ | _=>none)=none
  rw [Array.getElem?_eq_none hb]
theorem of_ld {w:World} {b o n:Nat} {l:List Value} (hn:l.length=n) (h0:0<n) (h : ∀ j v,l[j]?=some v→w.cell? ⟨b,o+j,none⟩=some v) (hk : ∀ v∈l,(absB w.heap.size v).kn=true) :
  ld (St.of w).h b o n true=some (.agg (l.map (absB w.heap.size))):=by
 have hc : ∃ cs T z,w.heap[b]?=some (.cells cs T z)∧(cs.toList.drop o).take n=l:=by
  match l,hn with
  | v::l',hn =>
   have h1:=h 0 v rfl
   unfold World.cell? at h1
   dsimp only at h1
   split at h1
   ·next cs T z e =>
    refine ⟨cs,T,z,e,?_⟩
    apply List.ext_getElem?
    intro j
    by_cases hj:j<n
    ·rw [List.getElem?_take_of_lt hj,List.getElem?_drop]
     cases hv:(v::l')[j]? with
     | none=>rw [List.getElem?_eq_none_iff] at hv; omega
     | some u =>
      have:=h j u hv
      unfold World.cell? at this
      dsimp only at this
      rw [e] at this
      simpa using this
    ·rw [List.getElem?_eq_none (by simp; omega),List.getElem?_eq_none (by omega)]
   ·cases h1
  | [],hn=>simp at hn; omega
 obtain ⟨cs,T,z,e,hl⟩:=hc
 have hg:(St.of w).h b=some ⟨cs.toList.map (absB w.heap.size),some (0,1)⟩:=by
  show (match w.heap[b]? with | some (.cells cs _ _)=>some (⟨cs.toList.map (absB w.heap.size),some (0,1)⟩:Bk) | _=>none)=_
  rw [e]
 unfold ld
 rw [hg]
 show (bif true then _ else _)=_
 rw [cond_true]
 unfold rdC
 dsimp only
 rw [← List.map_drop,← List.map_take,hl,List.length_map,hn,beq_s,show (l.map (absB w.heap.size)).all B.kn=true by
  rw [List.all_eq_true]; intro x hx; obtain ⟨v,hv,rfl⟩:=List.mem_map.mp hx; exact hk v hv]
 rfl
theorem absB_sl (N:Nat) (a:Addr) (n K:Nat):absB N (.slice (some a) n K)=if K≤9223372036854775807 then (if a.spot=none∧a.block<N∧n≤K then .sl a.block a.off n .any else if n=0 then .sl 0 0 0 .any else .any) else .any:=rfl
theorem HL.of {w:World} {a:Option Addr} {n cap e:Nat} {F:Nat→List Value} (h:SArg w a n e F) (hf:(a=none∧n=0∧cap=0)∨∃ x,a=some x) (hn:n≤cap) (hc:cap≤9223372036854775807) (he:0<e) (hF : ∀ i,i<n→(F i).length=e) (hk : ∀ i,i<n→∀ v∈F i,(absB w.heap.size v).kn=true) :
  HL (St.of w).h e (absB w.heap.size (.slice a n cap)) n fun i=>(F i).map (absB w.heap.size):=by
 rcases hf with ⟨rfl,rfl,rfl⟩ | ⟨x,rfl⟩
 ·exact .inl ⟨rfl,rfl⟩
 ·by_cases h0:n=0
  ·subst h0
   rw [absB_sl,if_pos hc]
   split
   ·exact .inr ⟨_,_,_,rfl,fun i hi=>by omega⟩
   ·rw [if_pos rfl]; exact .inr ⟨_,_,_,rfl,fun i hi=>by omega⟩
  ·rcases h with h | ⟨b,off,e1,hb,hr⟩
   ·exact absurd h h0
   ·cases e1
    rw [absB_sl,if_pos hc,if_pos ⟨rfl,hb,hn⟩]
    refine .inr ⟨_,_,_,rfl,fun i hi=>of_ld (hF i hi) he (fun j v hj=>?_) (hk i hi)⟩
    have hlt:j<e:=by rw [← hF i hi]; exact (List.getElem?_eq_some_iff.mp hj).1
    have:=hr i j hi hlt
    rw [Nat.add_assoc] at this ⊢
    rw [this,hj]
end Go.Proofs.Xe
namespace Go.Proofs.Xe
open Go Go.RowKit Go.ChangeShapes Go.WideShapes Go.ChangeAt Go.Deep Go.Proofs.Ins Go.Proofs.YtiaefgffeekfkaaGreatDoor
section
variable {H:Type} {enc:TypeId×Value→H} {W:World} {sp:Nat→Bool} {held:Bool}
theorem sl_form {P:Program} {t e:TypeId} (ht:P.underlying t=some (.slice e)) {fuel:Nat} {a:Option Addr} {n c:Nat} {x:DataW H×List MemPlace} (h:DataW.trod enc P W 0 sp held fuel t [.slice a n c]=some x):((a=none∧n=0∧c=0)∨∃ y,a=some y)∧n≤c∧c≤9223372036854775807:=by
 rcases open_slice ht h with ⟨e1,-⟩ | ⟨a',len,cap,m,k,D,Pl,e1,-,hl,hm,-⟩
 ·simp only [List.cons.injEq,Value.slice.injEq,and_true] at e1
  obtain ⟨rfl,rfl,rfl⟩:=e1
  exact ⟨.inl ⟨rfl,rfl,rfl⟩,Nat.le_refl _,by omega⟩
 ·simp only [List.cons.injEq,Value.slice.injEq,and_true] at e1
  obtain ⟨rfl,rfl,rfl⟩:=e1
  simp only [maxLen] at hm
  exact ⟨.inr ⟨_,rfl⟩,hl,by omega⟩
set_option maxRecDepth 100000 in
theorem x_u16s {fuel:Nat} {cs:List Value} {x:DataW H×List MemPlace} (h:DataW.trod enc Tryz.prog W 0 sp held fuel 22 cs=some x) (hL:Light Tryz.prog 22 x.1) :
  ∃ v n,∃ M:Nat→Nat,cs=[v]∧n≤140737488351232∧HL (St.of W).h 1 (absB W.heap.size v) n (fun i=>[.int .u16 (.ofNat (M i))])∧∀ i,i<n→M i≤65535:=by
 obtain ⟨a,n,c,M,rfl,hn,hs,hM⟩:=arg_u16s h hL
 obtain ⟨h1,h2,h3⟩:=sl_form Tryz.underlying22 h
 exact ⟨_,n,M,rfl,hn,HL.of hs h1 h2 h3 (by decide) (fun _ _=>rfl) (fun i _ v hv=>by
  simp only [c16,List.mem_singleton] at hv
  rw [hv]; rfl),hM⟩
set_option maxRecDepth 100000 in
theorem x_arr4_cells {fuel:Nat} {cs:List Value} {x:DataW H×List MemPlace} (h:DataW.trod enc Tryz.prog W 0 sp held fuel 115 cs=some x) :
  ∃ m:Nat→Nat,cs=[.int .u16 (m 0:Int),.int .u16 (m 1:Int),.int .u16 (m 2:Int),.int .u16 (m 3:Int)]∧∀ j,m j≤65535:=by
 obtain ⟨xs,n,rfl,rfl,hl,hx,hf⟩:=DataW.trod_array Tryz.underlying115 h
 have hc:Tryz.prog.cellsOf 115=4:=by kernel_rfl
 have hc0:Tryz.prog.cellsOf 24=1:=by kernel_rfl
 simp only [hc0,Nat.mul_one] at hf
 rw [hc] at hl
 match cs,hl,xs,hx with
 | [c0,c1,c2,c3],_,[x0,x1,x2,x3],_ =>
  obtain ⟨m0,e0,l0⟩:=u16_cells (show DataW.trod enc Tryz.prog W 0 sp held n 24 [c0]=some x0 from hf 0 (by omega))
  obtain ⟨m1,e1,l1⟩:=u16_cells (show DataW.trod enc Tryz.prog W 0 sp held n 24 [c1]=some x1 from hf 1 (by omega))
  obtain ⟨m2,e2,l2⟩:=u16_cells (show DataW.trod enc Tryz.prog W 0 sp held n 24 [c2]=some x2 from hf 2 (by omega))
  obtain ⟨m3,e3,l3⟩:=u16_cells (show DataW.trod enc Tryz.prog W 0 sp held n 24 [c3]=some x3 from hf 3 (by omega))
  simp at e0 e1 e2 e3
  subst e0 e1 e2 e3
  exact ⟨fun j=>if j=0 then m0 else if j=1 then m1 else if j=2 then m2 else m3,rfl,fun j=>by dsimp only; split; exact l0; split; exact l1; split; exact l2; exact l3⟩
set_option maxRecDepth 100000 in
theorem x_arrs {fuel:Nat} {cs:List Value} {x:DataW H×List MemPlace} (h:DataW.trod enc Tryz.prog W 0 sp held fuel 23 cs=some x) (hL:Light Tryz.prog 23 x.1) :
  ∃ v n,∃ L:Nat→Nat→Nat,cs=[v]∧n≤140737488351232∧HL (St.of W).h 4 (absB W.heap.size v) n (fun i=>[.int .u16 (.ofNat (L i 0)),.int .u16 (.ofNat (L i 1)),.int .u16 (.ofNat (L i 2)),.int .u16 (.ofNat (L i 3))])∧∀ i j,i<n→L i j≤65535:=by
 obtain ⟨a,n,c,C,rfl,hn,hs0,hx⟩:=open_rows (k:=4) Tryz.underlying23 (by kernel_rfl) (by omega) (of_decide_eq_true (by kernel_rfl)) h hL
 obtain ⟨L,hLL⟩:=choose_lt (α:=Nat→Nat) (p:=fun i m=>C i=[.int .u16 (m 0:Int),.int .u16 (m 1:Int),.int .u16 (m 2:Int),.int .u16 (m 3:Int)]∧∀ j,m j≤65535) (fun i hi=>by
  obtain ⟨_,n,y,h1,h2⟩:=hx i hi
  exact x_arr4_cells h1)
 have hs:=hs0.congr fun i hi=>(hLL i hi).1
 obtain ⟨h1,h2,h3⟩:=sl_form Tryz.underlying23 h
 exact ⟨_,n,L,rfl,hn,HL.of hs h1 h2 h3 (by decide) (fun _ _=>rfl) (fun i _ v hv=>by
  simp only [List.mem_cons,List.not_mem_nil,or_false] at hv
  rcases hv with rfl | rfl | rfl | rfl <;> rfl),fun i j hi=>(hLL i hi).2 j⟩
set_option maxRecDepth 100000 in
theorem x_arr3_cells {fuel:Nat} {cs:List Value} {x:DataW H×List MemPlace} (h:DataW.trod enc Tryz.prog W 0 sp held fuel 116 cs=some x) :
  ∃ m:Nat→Nat,cs=[.int .u16 (m 0:Int),.int .u16 (m 1:Int),.int .u16 (m 2:Int)]∧∀ j,m j≤65535:=by
 obtain ⟨xs,n,rfl,rfl,hl,hx,hf⟩:=DataW.trod_array Tryz.underlying116 h
 have hc:Tryz.prog.cellsOf 116=3:=by kernel_rfl
 have hc0:Tryz.prog.cellsOf 24=1:=by kernel_rfl
 simp only [hc0,Nat.mul_one] at hf
 rw [hc] at hl
 match cs,hl,xs,hx with
 | [c0,c1,c2],_,[x0,x1,x2],_ =>
  obtain ⟨m0,e0,l0⟩:=u16_cells (show DataW.trod enc Tryz.prog W 0 sp held n 24 [c0]=some x0 from hf 0 (by omega))
  obtain ⟨m1,e1,l1⟩:=u16_cells (show DataW.trod enc Tryz.prog W 0 sp held n 24 [c1]=some x1 from hf 1 (by omega))
  obtain ⟨m2,e2,l2⟩:=u16_cells (show DataW.trod enc Tryz.prog W 0 sp held n 24 [c2]=some x2 from hf 2 (by omega))
  simp at e0 e1 e2
  subst e0 e1 e2
  exact ⟨fun j=>if j=0 then m0 else if j=1 then m1 else m2,rfl,fun j=>by dsimp only; split; exact l0; split; exact l1; exact l2⟩
set_option maxRecDepth 100000 in
theorem x_arrs3 {fuel:Nat} {cs:List Value} {x:DataW H×List MemPlace} (h:DataW.trod enc Tryz.prog W 0 sp held fuel 41 cs=some x) (hL:Light Tryz.prog 41 x.1) :
  ∃ v n,∃ L:Nat→Nat→Nat,cs=[v]∧n≤140737488351232∧HL (St.of W).h 3 (absB W.heap.size v) n (fun i=>[.int .u16 (.ofNat (L i 0)),.int .u16 (.ofNat (L i 1)),.int .u16 (.ofNat (L i 2))])∧∀ i j,i<n→L i j≤65535:=by
 obtain ⟨a,n,c,C,rfl,hn,hs0,hx⟩:=open_rows (k:=3) Tryz.underlying41 (by kernel_rfl) (by omega) (of_decide_eq_true (by kernel_rfl)) h hL
 obtain ⟨L,hLL⟩:=choose_lt (α:=Nat→Nat) (p:=fun i m=>C i=[.int .u16 (m 0:Int),.int .u16 (m 1:Int),.int .u16 (m 2:Int)]∧∀ j,m j≤65535) (fun i hi=>by
  obtain ⟨_,n,y,h1,h2⟩:=hx i hi
  exact x_arr3_cells h1)
 have hs:=hs0.congr fun i hi=>(hLL i hi).1
 obtain ⟨h1,h2,h3⟩:=sl_form Tryz.underlying41 h
 exact ⟨_,n,L,rfl,hn,HL.of hs h1 h2 h3 (by decide) (fun _ _=>rfl) (fun i _ v hv=>by
  simp only [List.mem_cons,List.not_mem_nil,or_false] at hv
  rcases hv with rfl | rfl | rfl <;> rfl),fun i j hi=>(hLL i hi).2 j⟩
end
end Go.Proofs.Xe
namespace Go.Proofs.Ins
def fnz (f:Nat→Int):Nat→Int
 | 0=>0
 | n+1=>if fnz f n=0 then f n else fnz f n
theorem fnz_none {f:Nat→Int} : ∀ {n:Nat},(∀ i,i<n→f i=0)→fnz f n=0
 | 0,_=>rfl
 | n+1,h=>by
  unfold fnz; rw [if_pos (fnz_none fun i hi=>h i (by omega))]; exact h n (by omega)
theorem fnz_hit {f:Nat→Int} {k:Nat} : ∀ {n:Nat},(∀ i,i<k→f i=0)→f k≠0→k<n→fnz f n=f k
 | 0,_,_,h=>by omega
 | n+1,h,h2,h3=>by
  unfold fnz
  by_cases e:k=n
  ·subst e; rw [if_pos (fnz_none h)]
  ·have:=fnz_hit h h2 (show k<n by omega)
   rw [if_neg (by rw [this]; exact h2),this]
theorem fnz_zero {f:Nat→Int} : ∀ {n:Nat},fnz f n=0→∀ i,i<n→f i=0
 | 0,_,i,hi=>by omega
 | n+1,h,i,hi=>by
  unfold fnz at h
  by_cases e:fnz f n=0
  ·rw [if_pos e] at h
   by_cases e2:i=n
   ·rw [e2]; exact h
   ·exact fnz_zero e i (by omega)
  ·rw [if_neg e] at h; exact absurd h e
theorem fnz_congr {f g:Nat→Int} : ∀ {n:Nat},(∀ i,i<n→f i=g i)→fnz f n=fnz g n
 | 0,_=>rfl
 | n+1,h=>by unfold fnz; rw [fnz_congr (n:=n) fun i hi=>h i (by omega),h n (by omega)]
def chkC (x:C5):Int:=if x.h < -1∨8≤x.h then 19 else if x.r<0∨7<x.r then 1 else if sg x.a.q<0 then 7 else 0
def memT (t:Tier) (c:Int):Bool:=t.any fun p=>p.k == c
def memA (a:Agr) (c:Int):Bool:=a.any fun t=>memT t c
def earA (l:List Agr) (k:Nat) (c:Int):Bool:=(l.take k).any fun a=>memA a c
def chkP (n:Nat) (tk:Int→Bool) (p:Prt):Int :=
 if p.k < -1∨(n:Int)≤p.k then 1 else if p.k = -1∧p.b=false then 21 else if p.b=true∧sg p.a.q<0 then 7 else if p.k≠-1∧tk p.k=true then 20 else 0
def longT (a:Agr):Bool:=decide (24<a.length) || a.any fun t=>decide (24<t.length)
def chkT (n:Nat) (tk:Int→Bool) (t:Tier):Int:=fnz (fun i=>chkP n tk (ix t i)) t.length
def chkA (n:Nat) (tk:Int→Bool) (a:Agr):Int:=if longT a=true then 2 else fnz (fun i=>chkT n tk (ix a i)) a.length
def chkE (e:Est):Int :=
 if 24<e.c.length∨12<e.a.length then 2 else if sg e.m.q<0 then 7
 else if fnz (fun i=>chkC (ix e.c i)) e.c.length≠0 then fnz (fun i=>chkC (ix e.c i)) e.c.length
 else fnz (fun k=>chkA e.c.length (earA e.a k) (ix e.a k)) e.a.length
theorem memT_ix {t:Tier} {c:Int} : memT t c=true↔∃ i,i<t.length∧(ix t i).k=c:=by
 unfold memT; rw [List.any_eq_true]
 constructor
 ·rintro ⟨x,hx,h⟩
  obtain ⟨i,hi,rfl⟩:=List.getElem_of_mem hx
  exact ⟨i,hi,by rw [ix_lt hi]; simpa using h⟩
 ·rintro ⟨i,hi,h⟩
  exact ⟨_,ix_mem hi,by simpa using h⟩
theorem memA_ix {a:Agr} {c:Int} : memA a c=true↔∃ i,i<a.length∧memT (ix a i) c=true:=by
 unfold memA; rw [List.any_eq_true]
 constructor
 ·rintro ⟨x,hx,h⟩
  obtain ⟨i,hi,rfl⟩:=List.getElem_of_mem hx
  exact ⟨i,hi,by rw [ix_lt hi]; exact h⟩
 ·rintro ⟨i,hi,h⟩
  exact ⟨_,ix_mem hi,h⟩
theorem earA_zero (l:List Agr) (c:Int):earA l 0 c=false:=by simp [earA]
theorem earA_succ {l:List Agr} {k:Nat} (h:k<l.length) (c:Int):earA l (k+1) c=(earA l k c || memA (ix l k) c):=by
 unfold earA; rw [take_succ_ix h,List.any_append]; simp
theorem longT_false {a:Agr} : longT a=false↔a.length≤24∧∀ i,i<a.length→(ix a i).length≤24:=by
 unfold longT
 rw [Bool.or_eq_false_iff,decide_eq_false_iff_not,List.any_eq_false]
 constructor
 ·rintro ⟨h1,h2⟩
  exact ⟨by omega,fun i hi=>by have:=h2 _ (ix_mem hi); simp at this; omega⟩
 ·rintro ⟨h1,h2⟩
  refine ⟨by omega,fun x hx=>?_⟩
  obtain ⟨i,hi,rfl⟩:=List.getElem_of_mem hx
  have:=h2 i hi; rw [ix_lt hi] at this; simp; omega
def legsB (l:List Dbt) (d k:Nat):List Lg:=((l.take d).flatMap fun x=>x.l) ++ (ix l d).l.take k
def hasLg (s:List Lg) (x:Lg):Bool:=s.any fun y=>y.e == x.e && y.k == x.k
def holdL (l:List Est) (x:Lg):Int:=(ix (ix l x.e.toNat).c x.k.toNat).h
def chkL (g:Grp) (d k:Nat):Int :=
 let x:=ix (ix g.d d).l k
 if x.e<0∨(g.e.length:Int)≤x.e∨x.k<0∨((ix g.e x.e.toNat).c.length:Int)≤x.k then 1
 else if hasLg (legsB g.d d k) x=true then 20
 else if holdL g.e x≠holdL g.e (ix (ix g.d d).l 0) then 19 else 0
def chkD (g:Grp) (d:Nat):Int :=
 if 8<(ix g.d d).l.length then 2 else if sg (ix g.d d).w.q<0 then 7 else fnz (chkL g d) (ix g.d d).l.length
def chkH (g:Grp) (i k:Nat):Int:=if (g.e.length:Int)≤(ix (ix g.e i).c k).h∨(ix (ix g.e i).c k).h=(i:Int) then 19 else 0
def chkG (g:Grp):Int :=
 if 8<g.e.length∨16<g.d.length then 2
 else if fnz (fun i=>chkE (ix g.e i)) g.e.length≠0 then fnz (fun i=>chkE (ix g.e i)) g.e.length
 else if fnz (fun i=>fnz (chkH g i) (ix g.e i).c.length) g.e.length≠0 then fnz (fun i=>fnz (chkH g i) (ix g.e i).c.length) g.e.length
 else fnz (chkD g) g.d.length
structure SmallE (k:Nat) (e:Est):Prop where
 m:e.m.fits k
 c : ∀ i,i<e.c.length→(ix e.c i).a.fits k
 a : ∀ i j l,i<e.a.length→j<(ix e.a i).length→l<(ix (ix e.a i) j).length→(ix (ix (ix e.a i) j) l).a.fits k
 lc:e.c.length≤140737488351232
 la:e.a.length≤140737488351232
 lt : ∀ i,i<e.a.length→(ix e.a i).length≤140737488351232
 lp : ∀ i j,i<e.a.length→j<(ix e.a i).length→(ix (ix e.a i) j).length≤140737488351232
structure SmallG (k:Nat) (g:Grp):Prop where
 e : ∀ i,i<g.e.length→SmallE k (ix g.e i)
 w : ∀ i,i<g.d.length→(ix g.d i).w.fits k
 le:g.e.length≤140737488351232
 ld:g.d.length≤140737488351232
 ll : ∀ i,i<g.d.length→(ix g.d i).l.length≤140737488351232
end Go.Proofs.Ins
