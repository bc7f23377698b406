/- The walks of natural: trim, parse, Normalize, text: what they give of numbers. -/
import Derived.Test.YtjonjhcaniinaaaGreatDoorZ1
import Derived.IntWalk
import Derived.Test.YtjonjhcaniinaaaGreatDoorProg
import Derived.Deep.QuietTactic
import Derived.Lib.Strings
import Derived.Lib.Hide
set_option linter.all false
set_option maxRecDepth 100000
set_option maxHeartbeats 8000000
namespace Go.Proofs.Ins
open Go.RowKit
def bY (w:World) (b:Nat) (vs:Array Value):Prop:=∃ T,w.heap[b]?=some (.cells vs T (0,0))
theorem bY.lt {w:World} {b:Nat} {vs:Array Value} (h:bY w b vs):b<w.heap.size:=by
 obtain ⟨T,h⟩:=h;exact (Array.getElem?_eq_some_iff.mp h).1
theorem bY.cell {w:World} {b:Nat} {vs:Array Value} (h:bY w b vs) (j:Nat):w.cell? ⟨b,j,none⟩=vs[j]?:=by
 obtain ⟨T,h⟩:=h;exact cell_of_row w b j vs T (0,0) h
theorem bY.frozen {w:World} {b:Nat} {vs:Array Value} (h:bY w b vs) (j:Nat):w.frozen? ⟨b,j,none⟩=false:=by
 obtain ⟨T,h⟩:=h;exact frozen_of_row w b j vs T h
theorem bY.block {w w' : World} {b:Nat} {vs:Array Value} (h:bY w b vs) (hb:w'.heap[b]?=w.heap[b]?):bY w' b vs:=by
 obtain ⟨T,h⟩:=h;exact ⟨T,hb.trans h⟩
theorem bY.below {w w' : World} {b B:Nat} {vs:Array Value} (h:bY w b vs) (hb:Below B w w') (hB:b<B):bY w' b vs:=h.block (hb.block b hB)
theorem bY.on {w w' : World} {b:Nat} {vs:Array Value} (h:bY w b vs) (hb:Below w.heap.size w w'):bY w' b vs:=h.below hb h.lt
theorem bY.alloc {w:World} {b:Nat} {vs:Array Value} (h:bY w b vs) (o:Obj):bY (w.alloc o) b vs:=h.block (Below.heap_alloc w o b h.lt)
theorem bY.new (w:World) (vs:Array Value) (T:TypeId):bY (w.alloc (.cells vs T)) w.heap.size vs:=⟨T,heap_alloc_new w _⟩
theorem bY.setOther {w:World} {b:Nat} {vs:Array Value} (h:bY w b vs) (a:Addr) (v:Value) (ha:b≠a.block):bY (w.setCell a v) b vs:=h.block (heap_setCell_other w a b v ha)
theorem bY.set {w:World} {b:Nat} {vs:Array Value} (h:bY w b vs) (i:Nat) (v:Value):bY (w.setCell ⟨b,i,none⟩ v) b (vs.setIfInBounds i v):=by
 obtain ⟨T,h⟩:=h
 refine ⟨T,?_⟩
 rw [World.setCell]
 simp only [Array.getElem?_modify]
 simp [h]
theorem bY.bC {w:World} {b:Nat} {x y z:Value} (h:bY w b #[x,y,z]) :
  w.cell? ⟨b,0,none⟩=some x∧w.cell? ⟨b,1,none⟩=some y∧w.cell? ⟨b,2,none⟩=some z∧w.frozen? ⟨b,0,none⟩=false∧w.frozen? ⟨b,1,none⟩=false∧w.frozen? ⟨b,2,none⟩=false :=
 ⟨h.cell 0,h.cell 1,h.cell 2,h.frozen 0,h.frozen 1,h.frozen 2⟩
theorem bY.gX {w:World} {b:Nat} {x y z:Value} (h:bY w b #[x,y,z]) :
  (∀ d os,(Sort.grow (redrawn w d) os).cell? ⟨b,0,none⟩=some x)∧(∀ d os,(Sort.grow (redrawn w d) os).cell? ⟨b,1,none⟩=some y)∧(∀ d os,(Sort.grow (redrawn w d) os).cell? ⟨b,2,none⟩=some z) :=
 ⟨cell_regrown (h.cell 0),cell_regrown (h.cell 1),cell_regrown (h.cell 2)⟩
theorem bY.jE {w:World} {b:Nat} {x y z:Value} (h:bY w b #[x,y,z]) (x' y' z' : Value) :
  bY (((w.setCell ⟨b,0,none⟩ x').setCell ⟨b,1,none⟩ y').setCell ⟨b,2,none⟩ z') b #[x',y',z']:=((h.set 0 x').set 1 y').set 2 z'
theorem bY.su {w:World} {b b2:Nat} {vs:Array Value} (h:bY w b vs) (hb:b≠b2) (x' y' z' : Value) :
  bY (((w.setCell ⟨b2,0,none⟩ x').setCell ⟨b2,1,none⟩ y').setCell ⟨b2,2,none⟩ z') b vs:=((h.setOther _ _ hb).setOther _ _ hb).setOther _ _ hb
theorem aQ {B b:Nat} {w w' : World} (h:Below B w w') (hb:B≤b) (x' y' z' : Value) :
  Below B w (((w'.setCell ⟨b,0,none⟩ x').setCell ⟨b,1,none⟩ y').setCell ⟨b,2,none⟩ z'):=((h.setCell hb _).setCell hb _).setCell hb _
theorem chain {B:Nat} {w0 w w' : World} (h:Below B w0 w) (h2:Below w.heap.size w w') (hB:B≤w0.heap.size):Below B w0 w':=h.trans (h2.mono (Nat.le_trans hB h.size))
theorem fZ {w w3:World} {vs:Array Value} {T:TypeId} (h:Below (w.alloc (.cells vs T)).heap.size (w.alloc (.cells vs T)) w3) :
  bY w3 w.heap.size vs∧Below w.heap.size w w3 :=
 ⟨(bY.new w vs T).on h,chain ((Below.refl _ _).alloc jp _) h jp⟩
theorem OE {w w3:World} {vs us:Array Value} {T U:TypeId} (h:Below ((w.alloc (.cells vs T)).alloc (.cells us U)).heap.size ((w.alloc (.cells vs T)).alloc (.cells us U)) w3) :
  bY w3 w.heap.size vs∧bY w3 (w.heap.size+1) us∧Below w.heap.size w w3:=by
 refine ⟨((bY.new w vs T).alloc _).on h,?_,chain (((Below.refl _ _).alloc jp _).alloc kc _) h jp⟩
 have:=(bY.new (w.alloc (.cells vs T)) us U).on h
 rwa [World.size_alloc] at this
theorem IL {w w3:World} {vs us ts:Array Value} {T U V:TypeId} (h:Below (((w.alloc (.cells vs T)).alloc (.cells us U)).alloc (.cells ts V)).heap.size (((w.alloc (.cells vs T)).alloc (.cells us U)).alloc (.cells ts V)) w3) :
  bY w3 w.heap.size vs∧bY w3 (w.heap.size+1) us∧bY w3 (w.heap.size+1+1) ts∧Below w.heap.size w w3:=by
 refine ⟨(((bY.new w vs T).alloc _).alloc _).on h,?_,?_,chain ((((Below.refl _ _).alloc jp _).alloc kc _).alloc (by simp;omega) _) h jp⟩
 ·have:=((bY.new (w.alloc (.cells vs T)) us U).alloc (.cells ts V)).on h
  rwa [World.size_alloc] at this
 ·have:=(bY.new ((w.alloc (.cells vs T)).alloc (.cells us U)) ts V).on h
  rwa [World.size_alloc,World.size_alloc] at this
theorem aC {P:Program} {f:Func} {post:Ending→World→Prop} {x:Exit} {a:Act} {w:World} (R:World→Prop) (h:R w) (h2 : ∀ W,R W→bodyPost P f post x a W):bodyPost P f post x a w:=h2 w h
def wW (w:World) (b off sz n:Nat) (F:Nat→List Value):Prop:=∀ i j,i<n→j<sz→w.cell? ⟨b,off+i*sz+j,none⟩=(F i)[j]?
theorem wW.below {w w' : World} {b off sz n B:Nat} {F:Nat→List Value} (h:wW w b off sz n F) (hb:Below B w w') (hB:b<B):wW w' b off sz n F:=fun i j hi hj=>by
 rw [World.cell?_of_block (w:=w) (a:=⟨b,off+i*sz+j,none⟩) (hb.block b hB)];exact h i j hi hj
def OG (w:World) (a:Option Addr) (n sz:Nat) (F:Nat→List Value):Prop:=n=0∨∃ b off,a=some ⟨b,off,none⟩∧b<w.heap.size∧wW w b off sz n F
def ku (w:World) (base:Nat) (T:TypeId) (sz:Nat) (v:Value) (n:Nat) (F:Nat→List Value):Prop :=
 w.ownsRow base T sz v n ((List.range n).flatMap F)∧∀ i,i<n→(F i).length=sz
theorem ku.nil (w:World) (base:Nat) (T:TypeId) (sz:Nat) (F:Nat→List Value):ku w base T sz (.slice none 0 0) 0 F:=⟨⟨by simp,.inl ⟨rfl,rfl⟩⟩,fun i hi=>jb⟩
theorem ku.below {w w' : World} {base B:Nat} {T:TypeId} {sz:Nat} {v:Value} {n:Nat} {F:Nat→List Value} (h:ku w base T sz v n F) (hb:Below B w w') (hB:w.heap.size≤B):ku w' base T sz v n F:=by
 obtain ⟨⟨h1,h2⟩,h3⟩:=h
 refine ⟨⟨h1,?_⟩,h3⟩
 rcases h2 with h2|⟨g,cap,cur,rfl,hb2,hg,hn,hm,hs,ht⟩
 ·exact .inl h2
 ·exact .inr ⟨g,cap,cur,rfl,hb2,(hb.block g (Nat.lt_of_lt_of_le (Array.getElem?_eq_some_iff.mp hg).1 hB)).trans hg,hn,hm,hs,ht⟩
theorem uJ {F:Nat→List Value} {sz:Nat} : ∀ (n:Nat),(∀ i,i<n→(F i).length=sz)→∀ i j,i<n→j<sz→((List.range n).flatMap F)[i*sz+j]?=(F i)[j]?
 | 0,_,i,j,hi,_=>by omega
 | n+1,hF,i,j,hi,hj=>by
  rw [List.range_succ,List.flatMap_append]
  have hlen:((List.range n).flatMap F).length=n*sz:=by
   clear hi
   induction n with
   | zero=>simp
   | succ n ih =>
    rw [List.range_succ,List.flatMap_append,List.length_append,ih (fun i hi=>hF i (by omega))]
    simp [hF n (by omega),Nat.succ_mul]
  by_cases h:i<n
  ·have h4:i*sz+j<n*sz:=by
    have:=Nat.mul_le_mul_right sz (show i+1≤n by omega)
    rw [Nat.succ_mul] at this;omega
   rw [List.getElem?_append_left (by omega)]
   exact uJ n (fun i hi=>hF i (by omega)) i j h hj
  ·obtain rfl:i=n:=by omega
   rw [List.getElem?_append_right (by omega),hlen,show i*sz+j - i*sz=j by omega]
   simp
theorem ku.form {w:World} {base:Nat} {T:TypeId} {sz:Nat} {v:Value} {n:Nat} {F:Nat→List Value} (h:ku w base T sz v n F) :
  (v = .slice none 0 0∧n=0)∨∃ g cap,v = .slice (some ⟨g,0,none⟩) n cap∧base≤g∧n≤cap∧cap≤9223372036854775807∧g<w.heap.size∧wW w g 0 sz n F:=by
 obtain ⟨h0,h3⟩:=h
 obtain ⟨h1,h2⟩:=h0
 rcases h2 with h2|⟨g,cap,cur,rfl,hb,hg,hn,hm,hs,ht⟩
 ·exact .inl h2
 ·refine .inr ⟨g,cap,rfl,hb,hn,hm,(Array.getElem?_eq_some_iff.mp hg).1,fun i j hi hj=>?_⟩
  have hlt:i*sz+j<n*sz:=by
   have:=Nat.mul_le_mul_right sz (show i+1≤n by omega)
   rw [Nat.succ_mul] at this;omega
  have:=World.ownsRow.cellAt ⟨h1,.inr ⟨g,cap,cur,rfl,hb,hg,hn,hm,hs,ht⟩⟩ (i*sz+j) hlt
  rw [Nat.zero_add,this]
  exact uJ n h3 i j hi hj
theorem Cb {base sz:Nat} {w w' : World} {T:TypeId} {v:Value} {n:Nat} {xs:List Value} (h:w.ownsRow base T sz v n xs) (hg:w.grownBy w' v.ownBlock) (hb:base≤w.heap.size):Below base w w':=by
 refine (Below.refl _ _).grown hg hb ?_
 intro k hk
 rcases h.2 with ⟨rfl,_⟩|⟨g,cap,cur,rfl,hb2,_⟩
 ·cases hk
 ·have:g=k:=Option.some.inj hk
  omega
theorem OH {P:Program} {T:TypeId} {sz bytes:Nat} (h:(P.info? T).map (fun i=>(i.zero.map (fun z=>z.cells.size),i.size,i.bytes))=some (some sz,sz,bytes)) :
  ∃ i z,P.info? T=some i∧i.zero=some z∧z.cells.size=sz∧i.size=sz∧i.bytes=bytes:=by
 cases hi:P.info? T with
 | none=>rw [hi] at h;cases h
 | some i =>
  rw [hi] at h
  simp only [Option.map_some,Option.some.injEq,Prod.mk.injEq] at h
  obtain ⟨h1,h2,h3⟩:=h
  cases hz:i.zero with
  | none=>rw [hz] at h1;cases h1
  | some z =>
   rw [hz] at h1
   exact ⟨i,z,rfl,hz,Option.some.inj h1,h2,h3⟩
theorem VD {P:Program} {w:World} {o:Oper} {a:Act} {K:Act→World→Prop} {Q:Exit→Act→World→Prop}
  (s x:Operand) (t T:TypeId) (sz bytes:Nat) (base:Nat) (v:Value) (n:Nat) (F:Nat→List Value) (E:List Value)
  (hop:o.op = .call { callee:=.builtin .append,args:=#[s,x],argTypes:=#[t,t] })
  (h1:P.underlying t=some (.slice T)) (h2:(P.info? T).map (fun i=>(i.zero.map (fun z=>z.cells.size),i.size,i.bytes))=some (some sz,sz,bytes)) (hsz:0<sz)
  (hs:a.eval s=v) (hE:E.length=sz) (h1c : ∀ u∈E,u.oneCell' = true) (hx:a.eval x = .slice (some ⟨w.heap.size,0,none⟩) 1 1) (hown:ku w base T sz v n F) (hn:(n+1)*bytes≤140737488355328) (hn2:n+1≤4294967296) (hbase:base≤w.heap.size)
  (h : ∀ v' w',ku w' base T sz v' (n+1) (fun j=>if j<n then F j else E)→Below base w w'→K (a.put o.dst v') w') :
  o.wp P a (w.alloc (.cells E.toArray T)) K Q:=by
 obtain ⟨i,z,hi,hz,hzs,hsize,hbb⟩:=OH h2
 refine wp_append_own _ s x t hop base T i z sz bytes h1 hi hz hsize hbb hzs hsz v n _ hs (World.ownsRow.alloc hown.1 _) ⟨w.heap.size,0,none⟩ 1 1 E hx (by rw [hE,Nat.one_mul]) ?_ h1c (by unfold maxLen;omega) hn (by simp;omega) ?_
 ·intro j u hj
  have e:(⟨w.heap.size,0,none⟩:Addr).add j=⟨w.heap.size,j,none⟩:=by unfold Addr.add;split <;> simp_all
  rw [e,cell_of_row _ _ _ _ _ (0,0) (heap_alloc_new w _)]
  simpa using hj
 ·intro v' w' ho hgr _
  have hbl:Below base w w':=((Below.refl _ _).alloc hbase _).trans (Cb (World.ownsRow.alloc hown.1 _) hgr (by simp;omega))
  refine h v' w' ⟨?_,fun i hi=>?_⟩ hbl
  ·have e:(List.range n).flatMap F ++ E=(List.range (n+1)).flatMap (fun j=>if j<n then F j else E):=by
    rw [List.range_succ,List.flatMap_append]
    congr 1
    ·have hc : ∀ (m:Nat),m≤n→(List.range m).flatMap F=(List.range m).flatMap (fun j=>if j<n then F j else E):=by
      intro m
      induction m with
      | zero=>intro _;rfl
      | succ m ih =>
       intro hm
       rw [List.range_succ,List.flatMap_append,List.flatMap_append,ih (by omega)]
       simp [show m<n by omega]
     exact hc n (Nat.le_refl _)
    ·simp
   rw [← e];exact ho
  ·by_cases h:i<n
   ·simp only [h,if_true];exact hown.2 i h
   ·simp only [h,if_false];exact hE
theorem IQ {P:Program} {w:World} {ops:Array Oper} {rest:List Oper} {o:Oper} {a:Act} {Q:Exit→Act→World→Prop}
  (s x:Operand) (t T:TypeId) (sz bytes:Nat) (base:Nat) (v:Value) (n:Nat) (F:Nat→List Value) (E:List Value)
  (hg:o.guard=none) (hop:o.op = .call { callee:=.builtin .append,args:=#[s,x],argTypes:=#[t,t] })
  (h1:P.underlying t=some (.slice T)) (h2:(P.info? T).map (fun i=>(i.zero.map (fun z=>z.cells.size),i.size,i.bytes))=some (some sz,sz,bytes)) (hsz:0<sz)
  (hs:a.eval s=v) (hE:E.length=sz) (h1c : ∀ u∈E,u.oneCell' = true) (hx:a.eval x = .slice (some ⟨w.heap.size,0,none⟩) 1 1) (hown:ku w base T sz v n F) (hn:(n+1)*bytes≤140737488355328) (hn2:n+1≤4294967296) (hbase:base≤w.heap.size)
  (h : ∀ v' w',ku w' base T sz v' (n+1) (fun j=>if j<n then F j else E)→Below base w w'→wpList P ops Q rest (a.put o.dst v') w') :
  wpList P ops Q (o::rest) a (w.alloc (.cells E.toArray T)) :=
 wpList_plain hg fun _ hK=>VD s x t T sz bytes base v n F E hop h1 h2 hsz hs hE h1c hx hown hn hn2 hbase fun v' w' ho hb=>hK _ _ (h v' w' ho hb)
theorem ku.congr {w:World} {base:Nat} {T:TypeId} {sz:Nat} {v:Value} {n:Nat} {F G:Nat→List Value} (h:ku w base T sz v n F) (hg : ∀ i,i<n→F i=G i):ku w base T sz v n G:=by
 obtain ⟨h1,h2⟩:=h
 refine ⟨?_,fun i hi=>by rw [← hg i hi];exact h2 i hi⟩
 have hc : ∀ (m:Nat),m≤n→(List.range m).flatMap F=(List.range m).flatMap G:=by
  intro m
  induction m with
  | zero=>intro _;rfl
  | succ m ih =>
   intro hm
   rw [List.range_succ,List.flatMap_append,List.flatMap_append,ih jb]
   simp [hg m jb]
 rw [← hc n jp];exact h1
end Go.Proofs.Ins
namespace Go.Proofs.Ins
def rn (q:Rat):Bool:=decide (q.num<0)
def rs (q:Rat):ByteArray:=bn q.num.natAbs
def rd (q:Rat):ByteArray:=if q.den=1 then ⟨#[]⟩ else bn q.den
def oM (n:Bool) (x:Nat):Int:=if n=true then -(x:Int) else (x:Int)
theorem mO (n:Bool) (x:Nat):(oM n x).natAbs=x:=by unfold oM;cases n <;> simp
theorem RI (n:Bool):oM n 0=0:=by unfold oM;cases n <;> simp
theorem Yg (n:Bool) {x:Nat} (h:0<x):decide (oM n x<0)=n:=by unfold oM;cases n <;> simp;omega
theorem Yh (n m:Bool) (x y:Nat):oM n x*oM m y=oM (n != m) (x*y):=by
 unfold oM;cases n <;> cases m <;> simp [Int.neg_mul,Int.mul_neg]
theorem Cc (i:Int):oM (decide (i<0)) i.natAbs=i:=by
 unfold oM;by_cases h:i<0
 ·simp [h];omega
 ·simp [h];omega
def dn (d:ByteArray):Nat:=if nv d=0 then 1 else nv d
theorem akT (d:ByteArray):0<dn d:=by unfold dn;split <;> omega
theorem acE (q:Rat):dn (rd q)=q.den:=by
 unfold dn rd
 by_cases h:q.den=1
 ·rw [if_pos h,h];rfl
 ·rw [if_neg h,bK,if_neg (by have:=q.den_pos;omega)]
def Vl (n:Bool) (s d:ByteArray):Prop :=
 bn (nv s)=s∧bn (nv d)=d∧(nv s=0→n=false∧nv d=0)∧(nv d=0∨(nv d≠1∧Nat.gcd (nv s) (nv d)=1))
instance (n:Bool) (s d:ByteArray):Decidable (Vl n s d):=by unfold Vl;infer_instance
def rq (n:Bool) (s d:ByteArray):Rat:=if Vl n s d then mkRat (oM n (nv s)) (dn d) else 0
theorem akU (q:Rat):Vl (rn q) (rs q) (rd q):=by
 unfold Vl
 have hd:=q.den_pos
 have e:nv (rd q)=if q.den=1 then 0 else q.den:=by
  unfold rd;split
  ·rfl
  ·exact bK _
 refine ⟨by unfold rs;rw [bK],?_,?_,?_⟩
 ·unfold rd;split
  ·rfl
  ·rw [bK]
 ·intro h
  unfold rs at h
  rw [bK] at h
  have h0:q.num=0:=jb
  have h1:q=0:=Rat.num_eq_zero.mp h0
  subst h1
  exact ⟨rfl,rfl⟩
 ·rw [e]
  by_cases h1:q.den=1
  ·rw [if_pos h1];exact .inl rfl
  ·rw [if_neg h1]
   refine .inr ⟨h1,?_⟩
   unfold rs;rw [bK];exact q.reduced
theorem FN (q:Rat):rq (rn q) (rs q) (rd q)=q:=by
 unfold rq
 rw [if_pos (akU q),acE]
 unfold rs rn
 rw [bK,Cc,Rat.mkRat_self]
theorem Ce {n:Bool} {s d:ByteArray} (h:Vl n s d):(rq n s d).num=oM n (nv s)∧(rq n s d).den=dn d:=by
 obtain ⟨h1,h2,h3,h4⟩:=h
 unfold rq
 rw [if_pos ⟨h1,h2,h3,h4⟩]
 have hg:(dn d).gcd (oM n (nv s)).natAbs=1:=by
  rw [mO]
  unfold dn
  rcases h4 with h4|⟨h5,h6⟩
  ·rw [if_pos h4];exact Nat.gcd_one_left _
  ·by_cases h7:nv d=0
   ·rw [if_pos h7];exact Nat.gcd_one_left _
   ·rw [if_neg h7,Nat.gcd_comm];exact h6
 have hd:=akT d
 constructor
 ·rw [Rat.num_mkRat,if_neg jb,hg];simp
 ·rw [Rat.den_mkRat,if_neg jb,hg];simp
theorem IU {n:Bool} {s d:ByteArray} (h:Vl n s d):rn (rq n s d)=n∧rs (rq n s d)=s∧rd (rq n s d)=d:=by
 obtain ⟨e1,e2⟩:=Ce h
 obtain ⟨h1,h2,h3,h4⟩:=h
 refine ⟨?_,?_,?_⟩
 ·unfold rn;rw [e1]
  rcases Nat.eq_zero_or_pos (nv s) with h5|h5
  ·rw [h5,RI,(h3 h5).1];rfl
  ·exact Yg n h5
 ·unfold rs;rw [e1,mO,h1]
 ·unfold rd;rw [e2];unfold dn
  rcases h4 with h4|⟨h5,h6⟩
  ·rw [if_pos h4,if_pos rfl,← h2,h4];rfl
  ·by_cases h7:nv d=0
   ·rw [if_pos h7,if_pos rfl,← h2,h7];rfl
   ·rw [if_neg h7,if_neg h5,h2]
theorem acF {n:Bool} {s d:ByteArray} (h : ¬ Vl n s d):rq n s d=0:=by unfold rq;rw [if_neg h]
theorem Ci:rn 0=false:=rfl
theorem Cj:rs 0=⟨#[]⟩:=rfl
theorem Cm:rd 0=⟨#[]⟩:=rfl
theorem IV {p q:Rat} (h1:rn p=rn q) (h2:rs p=rs q) (h3:rd p=rd q):p=q:=by
 rw [← FN p,← FN q,h1,h2,h3]
def fr (n:Bool) (x y:Nat):Rat:=mkRat (oM n x) y
theorem OI (n:Bool) (y:Nat):fr n 0 y=0:=by unfold fr;rw [RI,Rat.zero_mkRat]
theorem acG {n:Bool} {x y:Nat} (hy:0<y):(fr n x y).num=oM n (x/Nat.gcd x y)∧(fr n x y).den=y/Nat.gcd x y:=by
 unfold fr
 have hg:y.gcd (oM n x).natAbs=Nat.gcd x y:=by rw [mO,Nat.gcd_comm]
 constructor
 ·rw [Rat.num_mkRat,if_neg jb,hg]
  have hdv:(Nat.gcd x y) ∣ x:=Nat.gcd_dvd_left x y
  unfold oM
  cases n
  ·simp
  ·simp only [if_true]
   rw [Int.neg_ediv_of_dvd (by exact_mod_cast hdv),Int.natCast_ediv]
 ·rw [Rat.den_mkRat,if_neg jb,hg]
theorem aak {n:Bool} {x y:Nat} (hx:0<x) (hy:0<y):rn (fr n x y)=n∧rs (fr n x y)=bn (x/Nat.gcd x y)∧rd (fr n x y)=if y/Nat.gcd x y=1 then ⟨#[]⟩ else bn (y/Nat.gcd x y):=by
 obtain ⟨e1,e2⟩:=acG (n:=n) (x:=x) hy
 have h0:0<x/Nat.gcd x y:=Nat.div_pos (Nat.gcd_le_left y hx) (Nat.gcd_pos_of_pos_left y hx)
 refine ⟨?_,?_,?_⟩
 ·unfold rn;rw [e1];exact Yg n h0
 ·unfold rs;rw [e1,mO]
 ·unfold rd;rw [e2]
def nm (q:Rat):Nat:=q.num.natAbs
theorem CB (q:Rat):fr (rn q) (nm q) q.den=q:=by unfold fr rn nm;rw [Cc,Rat.mkRat_self]
theorem A8 (q:Rat):oM (rn q) (nm q)=q.num:=Cc _
theorem nO {q:Rat} : nm q=0↔q=0:=by
 unfold nm;rw [← Rat.num_eq_zero];omega
theorem OJ {q:Rat} : rn q=true↔q<0:=by
 unfold rn;rw [decide_eq_true_iff,Rat.lt_iff];simp
theorem IW {q:Rat} : rn q=false↔0≤q:=by
 unfold rn;rw [decide_eq_false_iff_not,← Rat.num_nonneg];omega
theorem OL (a b:Rat):a*b=fr (rn a != rn b) (nm a*nm b) (a.den*b.den):=by
 unfold fr
 rw [← Yh,A8,A8,Rat.mul_def']
theorem OM {a b:Rat} (hb:b≠0):a/b=fr (rn a != rn b) (nm a*b.den) (a.den*nm b):=by
 have h1:0<nm b:=Nat.pos_of_ne_zero fun h=>hb (nO.mp h)
 have h2:fr (rn a != rn b) (nm a*b.den) (a.den*nm b)*b=a:=by
  rw [OL]
  have e1:=CB a
  have hd:=a.den_pos
  have hbd:=b.den_pos
  generalize hz:fr (rn a != rn b) (nm a*b.den) (a.den*nm b)=z
  have hz0:z=mkRat (oM (rn a != rn b) (nm a*b.den)) (a.den*nm b):=hz.symm
  rw [← OL,hz0,← CB b]
  unfold fr
  rw [Rat.mkRat_mul_mkRat,Yh]
  rw [show nm (mkRat (oM (rn b) (nm b)) b.den)=nm b by have:=CB b;unfold fr at this;rw [this]]
  rw [show rn (mkRat (oM (rn b) (nm b)) b.den)=rn b by have:=CB b;unfold fr at this;rw [this]]
  rw [show (mkRat (oM (rn b) (nm b)) b.den).den=b.den by have:=CB b;unfold fr at this;rw [this]]
  have e3:((rn a != rn b) != rn b)=rn a:=by cases rn a <;> cases rn b <;> rfl
  rw [e3]
  have e4:oM (rn a) (nm a*b.den*nm b)=oM (rn a) (nm a)*((b.den*nm b:Nat):Int):=by
   unfold oM;cases rn a <;> simp [Int.mul_assoc,Int.neg_mul]
  rw [e4,A8]
  rw [show a.den*nm b*b.den=a.den*(b.den*nm b) by rw [Nat.mul_assoc,Nat.mul_comm (nm b)]]
  rw [Rat.mkRat_mul_right (by have:=Nat.mul_pos hbd h1;omega),Rat.mkRat_self]
 rw [Rat.div_def]
 have h3:fr (rn a != rn b) (nm a*b.den) (a.den*nm b)*(b*b⁻¹)=a*b⁻¹:=by rw [← Rat.mul_assoc,h2]
 rw [Rat.mul_inv_cancel _ hb,Rat.mul_one] at h3
 exact h3.symm
theorem VE (a b:Rat):a+b=mkRat (oM (rn a) (nm a*b.den)+oM (rn b) (nm b*a.den)) (a.den*b.den):=by
 rw [Rat.add_def']
 congr 2
 ·rw [← A8 a];unfold oM;cases rn a <;> simp [Int.neg_mul]
 ·rw [← A8 b];unfold oM;cases rn b <;> simp [Int.neg_mul]
theorem CG (n:Bool) (x y:Nat):oM n x+oM n y=oM n (x+y):=by unfold oM;cases n <;> simp;omega
theorem rH {n m:Bool} (h:n≠m) {x y:Nat} (hle:y≤x):oM n x+oM m y=oM n (x - y):=by
 unfold oM;cases n <;> cases m <;> simp at h <;> simp <;> omega
theorem RJ {a b:Rat} (h:a.den=b.den):a+b=mkRat (oM (rn a) (nm a)+oM (rn b) (nm b)) a.den:=by
 have hd:=a.den_pos
 rw [VE,← h]
 have e:oM (rn a) (nm a*a.den)+oM (rn b) (nm b*a.den)=(oM (rn a) (nm a)+oM (rn b) (nm b))*(a.den:Int):=by
  rw [Int.add_mul];congr 1
  ·unfold oM;cases rn a <;> simp [Int.neg_mul]
  ·unfold oM;cases rn b <;> simp [Int.neg_mul]
 rw [e,Rat.mkRat_mul_right jb]
def sg (q:Rat):Int:=if q=0 then 0 else if q<0 then -1 else 1
def lY (a b:Rat):Int:=sg (a - b)
theorem Yi {q:Rat} (h:nm q=0):sg q=0:=by unfold sg;rw [if_pos (nO.mp h)]
theorem acH {q:Rat} (h:rn q=true):sg q = -1:=by
 have h1:=OJ.mp h
 unfold sg;rw [if_neg (by rintro rfl;exact Rat.lt_irrefl h1),if_pos h1]
theorem acI {q:Rat} (h:rn q=false) (h2:nm q≠0):sg q=1:=by
 have h1:=IW.mp h
 unfold sg;rw [if_neg (fun e=>h2 (nO.mpr e)),if_neg (by rw [Rat.not_lt];exact h1)]
theorem wX {a b:Rat} (h:a<b):lY a b = -1:=by
 unfold lY sg
 have h1:a - b<0:=by grind
 rw [if_neg (by intro e;rw [e] at h1;exact Rat.lt_irrefl h1),if_pos h1]
theorem wY {a b:Rat} (h:b<a):lY a b=1:=by
 unfold lY sg
 have h1:0<a - b:=by grind
 rw [if_neg (by intro e;rw [e] at h1;exact Rat.lt_irrefl h1),if_neg kf]
theorem wZ (a:Rat):lY a a=0:=by
 unfold lY;rw [Rat.sub_self];rfl
theorem xg {a b:Rat} : lY a b≤0↔a≤b:=by
 rcases Rat.le_total (a:=a) (b:=b) with h|h
 ·rcases Rat.le_iff_lt_or_eq.mp h with h1|rfl
  ·rw [wX h1];simp [h]
  ·rw [wZ];simp [h]
 ·rcases Rat.le_iff_lt_or_eq.mp h with h1|rfl
  ·rw [wY h1];constructor
   ·intro h;omega
   ·intro h;exact absurd h (Rat.not_le.mpr h1)
  ·rw [wZ];simp [h]
theorem xq {a b:Rat} : lY a b<0↔a<b:=by
 constructor
 ·intro h
  rcases Rat.le_total (a:=b) (b:=a) with h1|h1
  ·rcases Rat.le_iff_lt_or_eq.mp h1 with h2|rfl
   ·rw [wY h2] at h;omega
   ·rw [wZ] at h;omega
  ·rcases Rat.le_iff_lt_or_eq.mp h1 with h2|rfl
   ·exact h2
   ·rw [wZ] at h;omega
 ·intro h;rw [wX h];omega
def Sm (k:Nat) (q:Rat):Prop:=nm q<256 ^ k∧q.den<256 ^ k
theorem Sm.mono {k l:Nat} {q:Rat} (h:Sm k q) (hkl:k≤l):Sm l q :=
 ⟨Nat.lt_of_lt_of_le h.1 (Nat.pow_le_pow_right jb hkl),Nat.lt_of_lt_of_le h.2 (Nat.pow_le_pow_right jb hkl)⟩
theorem Sm.rs {k:Nat} {q:Rat} (h:Sm k q):(rs q).size≤k:=jP h.1
theorem Sm.rd {k:Nat} {q:Rat} (h:Sm k q):(rd q).size≤k:=by
 unfold Ins.rd;split
 ·exact Nat.zero_le _
 ·exact jP h.2
theorem agQ (k:Nat) (hk:0<k):Sm k 0:=⟨Nat.pow_pos jb,by
 show 1<256 ^ k
 exact Nat.one_lt_pow jb jb⟩
theorem aoy {n:Bool} {s d:ByteArray} {k:Nat} (hs:s.size≤k) (hd:d.size≤k) (hk:0<k):Sm k (rq n s d):=by
 by_cases h:Vl n s d
 ·obtain ⟨e1,e2⟩:=Ce h
  constructor
  ·unfold nm;rw [e1,mO]
   exact Nat.lt_of_lt_of_le (FD s) (Nat.pow_le_pow_right jb hs)
  ·rw [e2];unfold dn
   split
   ·exact Nat.one_lt_pow jb jb
   ·exact Nat.lt_of_lt_of_le (FD d) (Nat.pow_le_pow_right jb hd)
 ·rw [acF h];exact agQ k hk
theorem aoz {n:Bool} {x y k:Nat} (hx:x<256 ^ k) (hy:y<256 ^ k) (hy0:0<y):Sm k (fr n x y):=by
 obtain ⟨e1,e2⟩:=acG (n:=n) (x:=x) hy0
 constructor
 ·unfold nm;rw [e1,mO];exact Nat.lt_of_le_of_lt (Nat.div_le_self _ _) hx
 ·rw [e2];exact Nat.lt_of_le_of_lt (Nat.div_le_self _ _) hy
theorem iW {x y k l:Nat} (hx:x<256 ^ k) (hy:y<256 ^ l):x*y<256 ^ (k+l):=by
 rw [Nat.pow_add]
 have h0:0<256 ^ k:=Nat.pow_pos jb
 rcases Nat.eq_zero_or_pos y with rfl|h
 ·rw [Nat.mul_zero];exact Nat.mul_pos h0 (Nat.pow_pos jb)
 ·exact Nat.lt_of_lt_of_le (Nat.mul_lt_mul_of_pos_right hx h) (Nat.mul_le_mul_left _ (Nat.le_of_lt hy))
theorem Sm.div {k l:Nat} {a b:Rat} (h:Sm k a) (h2:Sm l b) (hb:b≠0):Sm (k+l) (a/b):=by
 rw [OM hb]
 exact aoz (iW h.1 h2.2) (iW h.2 h2.1) (Nat.mul_pos a.den_pos (Nat.pos_of_ne_zero fun h=>hb (nO.mp h)))
theorem Sm.neg {k:Nat} {a:Rat} (h:Sm k a):Sm k (-a):=by
 refine ⟨?_,h.2⟩
 have:nm (-a)=nm a:=by unfold nm;rw [Rat.neg_num];exact Int.natAbs_neg _
 rw [this];exact h.1
theorem akV {a:Rat} (h:nm a≠0):rn (-a) = !(rn a):=by
 unfold rn;rw [Rat.neg_num];unfold nm at h
 generalize a.num=i at *
 by_cases h1:i<0
 ·rw [decide_eq_true h1,decide_eq_false jb];rfl
 ·rw [decide_eq_false h1,decide_eq_true jb];rfl
theorem akW (a:Rat):rs (-a)=rs a:=by unfold rs;rw [Rat.neg_num,Int.natAbs_neg]
theorem akX (a:Rat):rd (-a)=rd a:=rfl
end Go.Proofs.Ins
namespace Go.Proofs.Ins
open Go.RowKit
theorem Ed:type_of% (And.intro @IntWalk.i64_in (And.intro @IntWalk.u64_in (And.intro @IntWalk.u32_in (And.intro @IntWalk.u16_in (And.intro @IntWalk.u8_in (And.intro @Int.tmod_eq_emod_of_nonneg @Int.tdiv_eq_ediv_of_nonneg)))))) :=
 And.intro @IntWalk.i64_in (And.intro @IntWalk.u64_in (And.intro @IntWalk.u32_in (And.intro @IntWalk.u16_in (And.intro @IntWalk.u8_in (And.intro @Int.tmod_eq_emod_of_nonneg @Int.tdiv_eq_ediv_of_nonneg)))))
theorem nP:(Tryz.prog.info? 138).map (fun i=>(i.zero,i.size,i.bytes))=some (some (.int .u32 0),1,4):=by kernel_rfl
theorem IX:(Tryz.prog.info? 5).map (fun i=>(i.zero,i.size,i.bytes))=some (some (.int .u8 0),1,1):=by kernel_rfl
def dX (w:World) (x:Nat) (e:Ending) (w' : World):Prop :=
 ∃ a len cap,e = .returned (.slice a len cap)∧len≤cap∧cap≤9223372036854775807∧Limbs w' a len x∧Below w.heap.size w w'
theorem Nk (b off len cap:Nat) (xs:Nat→Nat) (n:Nat) (w:World) (hl:len≤4294967296) (hcap:len≤cap)
  (hc : ∀ j,j<len→w.cell? ⟨b,off+j,none⟩=some (.int .u32 (xs j)))
  (hn:n≤len) (hz : ∀ j,n≤j→j<len→xs j=0) (hnz:n=0∨xs (n-1)≠0) :
  Calls Tryz.prog 113 #[.slice (some ⟨b,off,none⟩) len cap] w fun e w'=>e = .returned (.slice (some ⟨b,off,none⟩) n cap)∧w=w':=by
 go_enter Tryz.func113,Tryz.ntmps113
 go_wp2
 go_loop [3] (fun i=>∃ k:Nat,i = .int .i64 k∧n≤k∧k≤len) (fun i=>(intOf i).toNat)
 case atStart=>exact ⟨len,rfl,hn,jb⟩
 case round =>
  obtain ⟨k,rfl,h1,h2⟩:=hrel
  by_cases hk:k=n
  ·subst hk
   by_cases h0:k=0
   ·subst h0
    go_wp2
    go_ret
    exact ⟨rfl,rfl⟩
   ·have h3:xs (k-1)≠0:=jb
    have hcell:=hc (k-1) jb
    clear hc hz
    have hb:((xs (k-1):Int) == 0)=false:=by simp;omega
    go_wp2
    go_ret
    exact ⟨rfl,rfl⟩
  ·have hcell:=hc (k-1) jb
   have hz1:=hz (k-1) jb jb
   clear hc hz
   rw [hz1] at hcell
   clear hz1
   go_wp2
   go_round
   case rel=>exact ⟨k-1,by go_num,jb,jb⟩
   case measure=>simp [intOf];omega
theorem yE (w0:World) (b len:Nat) (T:TypeId) (f:Nat→Nat) (w:World) (hl:len≤4294967296) (hr:Row w b T .u32 len f) (hf : ∀ j,j<len→f j<LB) (hbel:Below w0.heap.size w0 w) :
  Calls Tryz.prog 113 #[.slice (some ⟨b,0,none⟩) len len] w (dX w0 (lv f len)) :=
 (Nk b 0 len len f (yj f len) w hl jp hr.reads (lK f len) (vW f len) (yC f len)).mono (by
  rintro e w' ⟨rfl,rfl⟩
  refine ⟨_,_,_,rfl,lK f len,jb,⟨f,GX f len,Iy hf,?_⟩,hbel⟩
  exact .inr ⟨b,0,rfl,fun j hj=>hr.reads j (Nat.lt_of_lt_of_le hj (lK f len))⟩)
theorem parse_any (s:ByteArray) (w:World) (hs:s.size≤1073741824) :
  Calls Tryz.prog 75 #[.string s] w (dX w (nv s)):=by
 obtain ⟨n,hn1,hn2,hn⟩ : ∃ n,s.size≤4*n∧4*n≤s.size+3∧Hid (n=(s.size+3)/4):=⟨_,jb,jb,rfl⟩
 go_enter Tryz.func75,Tryz.ntmps75
 go_wp2_with (refine eX _ _ 136 138 .u32 4 n _ rfl rfl Tryz.underlying136 nP rfl rfl (by have:=hn.out;omega) jb jb ?_;intro w1 hr1 hb1 hz1)
 go_loopw [13] (fun i wr=>∃ k:Nat,i = .int .i64 k∧k≤s.size∧Row wr w.heap.size 138 .u32 n (pw (Gj s) k)∧Below w.heap.size w wr) (fun i _=>s.size - (intOf i).toNat)
 case atStart=>exact ⟨0,rfl,jb,hr1.congr (fun j _=>(OC _ _).symm),hb1⟩
 case round =>
  obtain ⟨k,rfl,hk,hrow,hbel⟩:=hrel
  clear hr1 hb1 hz1
  by_cases hlt:k<s.size
  ·have hcell:=hrow.cell (j:=k/4) jb
   have hfr:=hrow.frozen (k/4)
   go_wp2
   have q2:((k:Int)/4).toNat=k/4:=jb
   have q9:((s.size:Int) - 1 - k).toNat=s.size - 1 - k:=jb
   refine wp_region_still_tail 19 (by kernel_rfl) (by kernel_rfl) ?_
   simp only [List.take_succ_cons,List.take_zero,List.drop_succ_cons,List.drop_zero]
   repeat (refine wpStill_step (fun K hK=>?_);go_simp;(try simp (disch:=omega) only [Ed]);(first|(refine hK _ ?_;clear hK K)|(simp (disch:=omega) only [if_pos,dif_pos,if_neg,dif_neg,Ed];go_simp;refine hK _ ?_;clear hK K)))
   refine wpStill_nil ?_
   change wpList _ _ _ _ _ (World.drew _)
   go_wp2
   go_round
   case rel =>
    refine ⟨k+1,by go_num,jb,?_,(hbel.setCell jp _).drew⟩
    have hb:=wV (s) k
    have hx:=acw (wV s) k
    have hy:=RH (wV s) (k+1) (k/4)
    rw [BR,upd_same] at hy
    rw [acv s k jb]
    have e1:((Gj s k:Int)%4294967296)=(Gj s k:Int):=jb
    have e2:(Gj s k:Int)*2 ^ (8*(k%4))%4294967296=(Gj s k:Int)*2 ^ (8*(k%4)):=by
     have:Gj s k*2 ^ (8*(k%4))<4294967296:=by unfold LB at hy;omega
     have h3:(Gj s k:Int)*2 ^ (8*(k%4))=((Gj s k*2 ^ (8*(k%4)):Nat):Int):=by push_cast;rfl
     rw [h3];omega
    rw [e1,e2,VB _ _ _ hx hy]
    exact (hrow.set (k/4) _).drew.congr fun j _=>(BR _ _ _).symm
   case measure=>simp [intOf];omega
  ·obtain rfl:k=s.size:=jb
   go_wp2_with fail
   refine (yE w _ n 138 _ _ jb hrow (fun j _=>RH (wV s) _ j) hbel).mono ?_
   rintro e w' ⟨a,len,cap,rfl,h1,h2,h3,h4⟩
   rw [ajY _ hn1,Vy] at h3
   go_wp2
   go_ret
   exact ⟨a,len,cap,rfl,h1,h2,h3,h4⟩
def aoA:Value→Nat|.string s=>s.size|_=>0
theorem agR (t:ByteArray) (h:0<t.size) (h0:t[0].toNat=0):nv (t.extract 1 t.size)=nv t∧(t.extract 1 t.size).size+1=t.size:=by
 have e:(t.extract 1 t.size).data.toList=t.data.toList.tail:=by
  rw [Lib.extract_data]
  simp
  rw [List.take_of_length_le]
  rw [List.length_tail]
  exact jp
 constructor
 ·unfold nv
  rw [e]
  have hs:t.data.toList.length=t.size:=rfl
  cases hl:t.data.toList with
  | nil=>rw [hl] at hs;simp at hs;omega
  | cons x r =>
   have hx:t[0]=x:=by
    have:t[0]=t.data.toList[0]'(by rw [hs];exact h):=rfl
    rw [this];simp [hl]
   rw [hx] at h0
   rw [List.tail_cons,ru,h0];simp
 ·have h2:(t.extract 1 t.size).data.toList.length=t.data.toList.tail.length:=by rw [e]
  have h3:t.data.toList.length=t.size:=rfl
  have h4:(t.extract 1 t.size).data.toList.length=(t.extract 1 t.size).size:=rfl
  rw [List.length_tail] at h2;omega
theorem agS {t:ByteArray} (h:0<t.size) (h0:t[0].toNat≠0):bn (nv t)=t:=by
 apply Ef
 have hs:t.data.toList.length=t.size:=rfl
 cases hl:t.data.toList with
 | nil=>simp
 | cons x r =>
  have hx:t[0]=x:=by
   have:t[0]=t.data.toList[0]'(by rw [hs];exact h):=rfl
   rw [this];simp [hl]
  rw [hx] at h0
  simp only [List.head?_cons,ne_eq,Option.some.injEq]
  intro e;apply h0;rw [e];rfl
theorem CJ {t:ByteArray} (h:t.size=0):bn (nv t)=t:=by
 apply Ef
 have hs:t.data.toList.length=t.size:=rfl
 have:t.data.toList=[]:=List.length_eq_zero_iff.mp jb
 rw [this];simp
theorem CO (s:ByteArray) (w:World) (hs:s.size≤9223372036854775807) :
  Calls Tryz.prog 144 #[.string s,.int .u8 0] w fun e w'=>e = .returned (.string (bn (nv s)))∧w=w':=by
 go_enter Tryz.func144,Tryz.ntmps144
 go_wp2
 go_loop [0] (fun v=>∃ t:ByteArray,v = .string t∧t.size≤s.size∧nv t=nv s) (fun v=>aoA v)
 case atStart=>exact ⟨s,rfl,jp,rfl⟩
 case round =>
  obtain ⟨t,rfl,h1,h2⟩:=hrel
  by_cases h0:t.size=0
  ·go_wp2
   go_ret
   exact ⟨rE (by rw [← h2,CJ h0]),rfl⟩
  ·have h3:0<t.size:=jb
   have HT:=agR t h3
   have HB:=agS h3
   have HH:=And.intro HT HB
   have H:Hid _:=HH
   clear HT HB HH
   go_wp2
   ·have hc:(t[0].toNat:Int) == 0:=by assumption
    have hc' : t[0].toNat=0:=by simpa using hc
    obtain ⟨e1,e2⟩:=H.out.1 hc'
    go_round
    case rel=>exact ⟨_,rfl,jb,e1.trans h2⟩
    case measure=>simp [aoA];omega
   ·have hc:((t[0].toNat:Int) == 0)=false:=by assumption
    have hc' : t[0].toNat≠0:=by simpa using hc
    go_ret
    exact ⟨rE (by rw [← h2,H.out.2 hc']),rfl⟩
theorem gW {s:ByteArray} (h:s.size=0):s=⟨#[]⟩:=by
 obtain ⟨⟨l⟩⟩:=s
 have:l=[]:=List.length_eq_zero_iff.mp h
 rw [this]
theorem iQ {s:ByteArray} (h : ¬ s.size=0):s.toList.isEmpty=false∧¬ s.toList=[]:=by
 obtain ⟨⟨l⟩⟩:=s
 rw [ByteArray.toList_eq]
 cases l with
 | nil=>exact absurd rfl h
 | cons _ _=>exact ⟨rfl,by simp⟩
theorem LW (s:ByteArray) (w:World) (hs:s.size≤9223372036854775807) :
  Calls Tryz.prog 111 #[.string s,.string ⟨#[0]⟩] w fun e w'=>e = .returned (.string (bn (nv s)))∧w=w':=by
 by_cases h0:s.size=0
 ·have hx:=CJ h0
  obtain rfl:=gW h0
  have H:=jx hx
  clear h0 hs hx
  go_enter Tryz.func111,Tryz.ntmps111
  go_wp2
  go_ret
  exact ⟨rE H.out.symm,rfl⟩
 ·obtain ⟨hd1,hd2⟩:=iQ h0
  have hlit:(({data:=#[0]} : ByteArray)[0].toNat:Int)=0:=rfl
  go_enter Tryz.func111,Tryz.ntmps111
  go_wp2_with (go_at_call 144;refine (CO s _ hs).mono ?_;rintro e w' ⟨rfl,rfl⟩)
  go_ways
  go_ret
  exact ⟨rfl,rfl⟩
theorem aV (s:ByteArray) (w:World) (hs:s.size≤9223372036854775807) :
  Calls Tryz.prog 72 #[.string s] w fun e w'=>e = .returned (.string (bn (nv s)))∧w=w':=by
 go_enter Tryz.func72,Tryz.ntmps72
 go_wp2_with (go_at_call 111;refine (LW s _ hs).mono ?_;rintro e w' ⟨rfl,rfl⟩)
 go_ret
 exact ⟨rfl,rfl⟩
def RN (g:Nat→Nat) (n:Nat):ByteArray:=⟨((List.range n).map fun j=>UInt8.ofNat (g j)).toArray⟩
theorem vX (g:Nat→Nat) (n:Nat):(RN g n).size=n:=by
 show ((List.range n).map fun j=>UInt8.ofNat (g j)).toArray.size=n
 simp
theorem Yj (g:Nat→Nat) (n:Nat) (hg : ∀ j,j<n→g j<256):nv (RN g n)=bl (fun k=>g (n - 1 - k)) n:=by
 rw [← Vy,vX]
 apply BQ
 intro k hk
 unfold Gj
 rw [vX]
 have:(RN g n).data.toList=(List.range n).map fun j=>UInt8.ofNat (g j):=rfl
 rw [this,List.getD_eq_getElem?_getD,List.getElem?_map,List.getElem?_range jb]
 have:=hg (n - 1 - k) jb
 simp;omega
theorem Row.str {P:Program} {w:World} {b n:Nat} {T src dst e:TypeId} {g:Nat→Nat} (h:Row w b T .u8 n g) (cap:Nat)
  (hs:P.underlying src=some (.slice e)) (he:P.underlying e=some (.int .u8)) (hd:P.underlying dst=some .string) :
  (convert src dst (.slice (some ⟨b,0,none⟩) n cap)).run P w = .ok (.string (RN g n)) w:=by
 have:=run_convert_bytes_arg (P:=P) w src e hs he b 0 n cap ((List.range n).map fun j=>(g j:Int)) kc (fun i hi=>by
  rw [Nat.zero_add,h.cell hi,List.getD_eq_getElem?_getD,List.getElem?_map,List.getElem?_range hi];rfl) dst hd
 rw [this]
 congr 2
 unfold strOfNums RN
 rw [List.map_map]
 congr 2
theorem vY (b off len cap:Nat) (f:Nat→Nat) (w:World) (hl:len≤1073741824) (hcap:len≤cap)
  (hc:Reads w b off .u32 len f) (hf : ∀ j,j<len→f j<LB) :
  Calls Tryz.prog 76 #[.slice (some ⟨b,off,none⟩) len cap] w fun e w'=>e = .returned (.string (bn (lv f len)))∧Below w.heap.size w w':=by
 obtain ⟨n,hn⟩ : ∃ n,n=4*len:=⟨_,rfl⟩
 have hn1:n≤4*len:=jb
 have hn2:4*len≤n:=jb
 have hnn:=jx hn
 clear hn
 go_enter Tryz.func76,Tryz.ntmps76
 go_wp2_with (refine eX _ _ 179 5 .u8 1 n _ rfl rfl Tryz.underlying179 IX rfl rfl jb jb jb ?_;intro w1 hr1 hb1 hz1)
 go_loopw [11] (fun i wr=>∃ k:Nat,i = .int .i64 k∧k≤n∧Row wr w.heap.size 5 .u8 n (fun j=>if n≤j+k then lby f (n - 1 - j) else 0)∧Below w.heap.size w wr) (fun i _=>n - (intOf i).toNat)
 case atStart=>exact ⟨0,rfl,jb,hr1.congr (fun j hj=>by rw [if_neg jb]),hb1⟩
 case round =>
  obtain ⟨k,rfl,hk,hrow,hbel⟩:=hrel
  clear hr1 hb1 hz1
  by_cases hlt:k<n
  ·have hbw:b<w.heap.size:=hc.lt jb
   have hcell:=(hc.below hbel hbw) (k/4) jb
   have hfr:=hrow.frozen (n - 1 - k)
   have hold:=hrow.cell (j:=n - 1 - k) jb
   rw [if_neg jb] at hold
   clear hc
   go_wp2
   go_round
   case rel =>
    refine ⟨k+1,by go_num,jb,?_,(hbel.setCell jp _)⟩
    have e1:((f (k/4):Int)/2 ^ (8*(k%4))%256)=((lby f k:Nat):Int):=by unfold lby;push_cast;rfl
    rw [e1]
    refine (hrow.set (n - 1 - k) _).congr fun j hj=>?_
    by_cases hj2:j=n - 1 - k
    ·subst hj2;rw [upd_same,if_pos jb];congr 1;omega
    ·rw [bI _ _ _ hj2]
     by_cases h3:n≤j+k
     ·rw [if_pos h3,if_pos jb]
     ·rw [if_neg h3,if_neg jb]
   case measure=>simp [intOf];omega
  ·obtain rfl:k=n:=jb
   have hcv:=hrow.str (P:=Tryz.prog) (src:=179) (dst:=9) k Tryz.underlying179 Tryz.underlying5 Tryz.underlying9
   have hsz:=vX (fun j=>if k≤j+k then lby f (k - 1 - j) else 0) k
   have hnv:nv (RN (fun j=>if k≤j+k then lby f (k - 1 - j) else 0) k)=lv f len:=by
    rw [Yj _ _ (fun j _=>by split;exact Nat.mod_lt _ jb;omega)]
    rw [← acy hf,← hnn.out]
    apply BQ
    intro j hj
    rw [if_pos jb];congr 1;omega
   generalize RN (fun j=>if k≤j+k then lby f (k - 1 - j) else 0) k=t at *
   have H:=jx hnv
   have H2:t.size≤9223372036854775807:=jb
   clear hnv hrow hc hsz hcap
   go_wp2_with (go_at_call 72;refine (aV _ _ jb).mono ?_;rintro e w' ⟨rfl,rfl⟩)
   go_ret
   exact ⟨rE (by rw [H.out]),hbel⟩
end Go.Proofs.Ins
