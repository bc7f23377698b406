/- Two lists of rewriting rules under one name each. -/
import Derived.StillTail
import Derived.Lib.QuietBelow
import Derived.BigQuiet
import Derived.StillTailTactics
import Derived.Test.YtiaefgffeekfkaaGreatDoorY1
import Derived.IntWalk
set_option linter.unusedSimpArgs false
set_option linter.unusedVariables false
namespace Go.Proofs.Ins
open Go.RowKit
section
variable {P:Program} {ops:Array Oper} {md:Region.Mode} {C:World→Prop}
def headAny (P:Program) (md:Region.Mode) (ops:Array Oper) (C:World→Prop) (n:Nat) (L:Array Bool→Act→Prop):Nat→Array Bool→Act→Prop
 | 0,listed,a=>L listed a
 | f+1,listed,a=>Region.ready md ops listed≠[]∧∀ i∈Region.ready md ops listed,i<n∧qOp P ops C i (headAny P md ops C n L f (listed.setIfInBounds i true)) a
theorem headAny_wp {n g:Nat} {L:Array Bool→Act→Prop} {Q:Exit→Act→World→Prop} (hL : ∀ listed a w,C w→L listed a→wpAny P md ops Q g listed a w) :
  ∀ (f:Nat) (listed:Array Bool) (a:Act) (w:World),C w→headAny P md ops C n L f listed a→wpAny P md ops Q (f+g) listed a w
 | 0,listed,a,w,hw,h=>by rw [Nat.zero_add];exact hL _ _ _ hw h
 | f+1,listed,a,w,hw,h=>by
  rw [show f+1+g=(f+g)+1 by omega]
  exact ⟨fun h0=>absurd h0 h.1,fun i hi=>wpOp_of_qOp hw (fun a' w' hw' h'=>headAny_wp hL f _ a' w' hw' h') (h.2 i hi).2⟩
theorem headAny_first {n i:Nat} {oi:Oper} {v:Value} {L:Array Bool→Act→Prop} (hi:ops[i]?=some oi) (hsel : ∀ (j:Nat) (o:Oper) cs b,ops[j]?=some o→o.op≠.select cs b)
  (hs:Region.sinkB md ops n=true) (hc:Region.chainB md ops n=true) (hn:n<ops.size) (hin:i<n)
  (hdone : ∀ listed a,L listed a→∀ j∈Region.ready md ops listed,n≤j) :
  ∀ (f:Nat) (listed:Array Bool) (a:Act),HeadInv md ops n listed →
   (∀ j oj,ops[j]?=some oj→j≠i→listed.getD j true=false→(∀ e∈oj.after,Region.binds md e=true→e.on≠i)→oi.apart ops oj=true) →
   i∈Region.ready md ops listed→YieldsIn P ops C oi v a →
   headAny P md ops C n L f (listed.setIfInBounds i true) (a.put oi.dst v)→headAny P md ops C n L (f+1) listed a:=by
 intro f
 induction f with
 | zero =>
  intro listed a inv _ hr hy H
  have hun:=(mem_ready.1 hr).1
  refine ⟨fun h=>(by rw [h] at hr;cases hr),fun j hj=>?_⟩
  have hjn:j<n:=Nat.lt_of_not_le fun h=>absurd hj (tail_waits hs hc hn inv _ i rfl hin hun j h)
  refine ⟨hjn,?_⟩
  by_cases hji:j=i
  ·subst hji;exact hy.qOp hi H
  ·exact absurd (hdone _ _ H j (ready_mono hj hji)) (by omega)
 | succ f ih =>
  intro listed a inv hfree hr hy H
  have hun:=(mem_ready.1 hr).1
  refine ⟨fun h=>(by rw [h] at hr;cases hr),fun j hj=>?_⟩
  have hjn:j<n:=Nat.lt_of_not_le fun h=>absurd hj (tail_waits hs hc hn inv _ i rfl hin hun j h)
  refine ⟨hjn,?_⟩
  by_cases hji:j=i
  ·subst hji;exact hy.qOp hi H
  ·have h1:=(H.2 j (ready_mono hj hji)).2
   obtain ⟨hjun,oj,hoj,hall⟩:=mem_ready.1 hj
   have hnot : ∀ e∈oj.after,Region.binds md e=true→e.on≠i:=fun e he hb heq=>by
    have h1:=hall e he hb
    rw [heq,getD_both hun] at h1
    cases h1
   have h2:=qOp_put hoj (hfree j oj hoj hji hjun hnot) (fun cs b=>hsel i oi cs b hi) (fun cs b=>hsel j oj cs b hoj) hy h1
   have hfree' : ∀ k ok,ops[k]?=some ok→k≠i→(listed.setIfInBounds j true).getD k true=false →
     (∀ e∈ok.after,Region.binds md e=true→e.on≠i)→oi.apart ops ok=true:=fun k ok hk hki hkun hno=>by
    refine hfree k ok hk hki ?_ hno
    by_cases hjk:j=k
    ·subst hjk;exact hjun
    ·rw [getD_set_ne true hjk] at hkun;exact hkun
   refine qOp_mono (fun a' h3=>ih (listed.setIfInBounds j true) a' (inv.set hj hjn) hfree' (ready_mono hr (Ne.symm hji)) h3.1 ?_) h2
   rw [Array.setIfInBounds_comm _ _ hji]
   exact h3.2
theorem headAny_lex {n g:Nat} {M:Act→Prop} (hsel:Region.noSelect ops=true) (hs:Region.sinkB md ops n=true) (hc:Region.chainB md ops n=true) (hn:n<ops.size) :
  ∀ (l:List Oper) (k:Nat) (listed:Array Bool) (a:Act),(∀ j,j<l.length→l[j]?=ops[k+j]?)→k+l.length=n→HeadInv md ops n listed →
  Region.lexHead md ops g l.length k listed=true→wpQuiet P ops C M l a →
  headAny P md ops C n (fun listed' a'=>Region.seqB md ops g n listed' = true∧M a') l.length listed a
 | [],k,listed,a,_,hk,_,hB,h=>by
  have:k=n:=by simpa using hk
  subst this
  exact ⟨by simpa [Region.lexHead] using hB,h⟩
 | o::l,k,listed,a,hl,hk,inv,hB,h=>by
  have h0:ops[k]?=some o:=by simpa using (hl 0 (by simp)).symm
  simp only [List.length_cons,Region.lexHead,Bool.and_eq_true] at hB
  obtain ⟨⟨hr,hf⟩,hB'⟩:=hB
  have hkn:k<n:=by simp only [List.length_cons] at hk;omega
  have hr' : k∈Region.ready md ops listed:=by simpa using hr
  have hst:qOp P ops C k (wpQuiet P ops C M l) a:=by unfold qOp;simp only [h0];exact h
  obtain ⟨v,hy,hK⟩:=yieldsIn_of_qOp h0 hst
  exact headAny_first h0 (Region.noSelect_spec hsel) hs hc hn hkn (fun listed' a' hL=>seqB_ready hL.1) l.length listed a inv (Region.free_spec h0 hf) hr' hy
   (headAny_lex hsel hs hc hn l (k+1) _ _ (fun j hj=>by have:=hl (j+1) (by simp;omega);simpa [Nat.add_assoc,Nat.add_comm 1 j] using this) (by simp only [List.length_cons] at hk;omega) (inv.set hr' hkn) hB' hK)
theorem wp_region_quiet_tail {id:Nat} {Q:Exit→Act→World→Prop} {a:Act} {w:World} {l:List Oper} (n:Nat) (hm:P.follows .mixedOrders=true) (hB:Region.lexTailB .any l.toArray n=true)
  (hC:C { w with drawn:=w.drawn+1 })
  (h:wpQuiet P l.toArray C (fun a'=>∀ w',C w'→wpList P l.toArray Q (l.drop n) a' w') (l.take n) a):(Code.region id l.toArray true).wp P Q a w:=by
 simp only [Region.lexTailB,Bool.and_eq_true,decide_eq_true_eq] at hB
 obtain ⟨⟨⟨⟨hsel,hn⟩,hs⟩,hc⟩,hlex⟩:=hB
 have hn' : n<l.length:=by simpa using hn
 have htl:(l.take n).length=n:=by simp;omega
 have hdl:(l.drop n).length=l.toArray.size - n:=by simp
 have inv0:HeadInv .any l.toArray n (Array.replicate l.toArray.size false) :=
  ⟨by simp,fun j oj _ hl=>(by rw [getD_replicate_false] at hl;cases hl),fun t _ ht=>getD_in (by simpa using ht) (getD_replicate_false _ _)⟩
 have H:=headAny_lex (md:=.any) (g:=l.toArray.size - n) hsel hs hc hn (l.take n) 0 _ a (fun j hj=>by
  have hj' : j<n:=by rw [htl] at hj;exact hj
  simp [hj']) (by simpa using htl) inv0 (by rw [htl];exact hlex) h
 refine wp_region_any hm ?_
 have:=headAny_wp (Q:=Q) (g:=l.toArray.size - n) (fun listed a' w' hw' hL=>by
  have:=wpAny_of_seq (md:=.any) (Q':=Q) (l.drop n) n listed a' w' (fun j=>by simp [List.getElem?_drop]) (by rw [hdl];exact hL.1) (hL.2 w' hw')
  rwa [hdl] at this) _ _ _ _ hC H
 rw [htl,show n+(l.toArray.size - n)=l.toArray.size by omega] at this
 exact this
end
abbrev Later (w:World):World→Prop:=fun w'=>∃ p:Regrown,w' = Sort.grow (redrawn w p.d) p.os
theorem later_drew (w:World):Later w { w with drawn:=w.drawn+1 }:=⟨⟨w.drawn+1,#[]⟩,by rw [Sort.grow_empty];rfl⟩
theorem Later.below {w w' : World} (h:Later w w'):Below w.heap.size w w':=by obtain ⟨p,rfl⟩:=h;exact below_regrown w p.d p.os
theorem wpQuiet_mono {P:Program} {ops:Array Oper} {C:World→Prop} {M M' : Act→Prop} (hM : ∀ a,M a→M' a) : ∀ {l:List Oper} {a:Act},wpQuiet P ops C M l a→wpQuiet P ops C M' l a
 | [],_,h=>hM _ h
 | o::l,a,h=>by
  unfold wpQuiet at *
  split
  ·rename_i hw;rw [if_pos hw] at h;exact Oper.quiet_mono (fun _ h=>wpQuiet_mono hM h) h
  ·rename_i hw;rw [if_neg hw] at h;exact wpQuiet_mono hM h
theorem wp_region_qb {P:Program} {id:Nat} {Q:Exit→Act→World→Prop} {a:Act} {w:World} {l:List Oper} (hm:P.follows .mixedOrders=true) (hB:Region.lexB .any l.toArray=true)
  (h:wpQuiet P l.toArray (Later w) (fun a'=>∀ w',Below w.heap.size w w'→Q .normal a' w') l a):(Code.region id l.toArray true).wp P Q a w :=
 wp_region_quiet (C:=Later w) hm hB (later_drew w) (by
  have:=wpQuiet_mono (M':=fun a'=>∀ w',Later w w'→Q .normal a' w') (fun _ h w' hw'=>h w' hw'.below) h
  simpa using this)
theorem wp_region_qbt {P:Program} {id:Nat} {Q:Exit→Act→World→Prop} {a:Act} {w:World} {l:List Oper} (n:Nat) (hm:P.follows .mixedOrders=true) (hB:Region.lexTailB .any l.toArray n=true)
  (h:wpQuiet P l.toArray (Later w) (fun a'=>∀ w',Below w.heap.size w w'→wpList P l.toArray Q (l.drop n) a' w') (l.take n) a):(Code.region id l.toArray true).wp P Q a w :=
 wp_region_quiet_tail (C:=Later w) n hm hB (later_drew w) (wpQuiet_mono (fun _ h w' hw'=>h w' hw'.below) h)
theorem Calls.later {P:Program} {f:FuncId} {args:Array Value} {w:World} {d:Nat} {os:Array Obj} {v:Value}
  (h:Calls P f args (Sort.grow (redrawn w d) os) fun e w'=>e = .returned v∧Below (Sort.grow (redrawn w d) os).heap.size (Sort.grow (redrawn w d) os) w'):Calls P f args (Sort.grow (redrawn w d) os) fun e w''=>e = .returned v∧∃ p:Regrown,w'' = Sort.grow (redrawn w p.d) p.os:=Calls.regrown_of h
theorem Calls.later_same {P:Program} {f:FuncId} {args:Array Value} {w:World} {d:Nat} {os:Array Obj} {v:Value}
  (h:Calls P f args (Sort.grow (redrawn w d) os) fun e w'=>e = .returned v∧Sort.grow (redrawn w d) os=w'):Calls P f args (Sort.grow (redrawn w d) os) fun e w''=>e = .returned v∧∃ p:Regrown,w'' = Sort.grow (redrawn w p.d) p.os :=
 h.mono fun _ _ ⟨he,hw⟩=>⟨he,⟨d,os⟩,hw.symm⟩
theorem wp_forget {P:Program} {c:Code} {Q:Exit→Act→World→Prop} {a:Act} {w:World} (R:World→Prop) (h:R w) (h2 : ∀ W,R W→c.wp P Q a W):c.wp P Q a w:=h2 w h
def Blk (w:World) (b:Nat) (vs:Array Value):Prop:=∃ T,w.heap[b]?=some (.cells vs T (0,0))
theorem Blk.lt {w:World} {b:Nat} {vs:Array Value} (h:Blk w b vs):b<w.heap.size:=by
 obtain ⟨T,h⟩:=h;exact (Array.getElem?_eq_some_iff.mp h).1
theorem Blk.cell {w:World} {b:Nat} {vs:Array Value} (h:Blk w b vs) (j:Nat):w.cell? ⟨b,j,none⟩=vs[j]?:=by
 obtain ⟨T,h⟩:=h;exact cell_of_row w b j vs T (0,0) h
theorem Blk.frozen {w:World} {b:Nat} {vs:Array Value} (h:Blk w b vs) (j:Nat):w.frozen? ⟨b,j,none⟩=false:=by
 obtain ⟨T,h⟩:=h;exact frozen_of_row w b j vs T h
theorem Blk.block {w w' : World} {b:Nat} {vs:Array Value} (h:Blk w b vs) (hb:w'.heap[b]?=w.heap[b]?):Blk w' b vs:=by
 obtain ⟨T,h⟩:=h;exact ⟨T,hb.trans h⟩
theorem Blk.below {w w' : World} {b B:Nat} {vs:Array Value} (h:Blk w b vs) (hb:Below B w w') (hB:b<B):Blk w' b vs:=h.block (hb.block b hB)
theorem Blk.on {w w' : World} {b:Nat} {vs:Array Value} (h:Blk w b vs) (hb:Below w.heap.size w w'):Blk w' b vs:=h.below hb h.lt
theorem Blk.alloc {w:World} {b:Nat} {vs:Array Value} (h:Blk w b vs) (o:Obj):Blk (w.alloc o) b vs:=h.block (Below.heap_alloc w o b h.lt)
theorem Blk.new (w:World) (vs:Array Value) (T:TypeId):Blk (w.alloc (.cells vs T)) w.heap.size vs:=⟨T,heap_alloc_new w _⟩
theorem Blk.setOther {w:World} {b:Nat} {vs:Array Value} (h:Blk w b vs) (a:Addr) (v:Value) (ha:b≠a.block):Blk (w.setCell a v) b vs:=h.block (heap_setCell_other w a b v ha)
theorem Blk.set {w:World} {b:Nat} {vs:Array Value} (h:Blk w b vs) (i:Nat) (v:Value):Blk (w.setCell ⟨b,i,none⟩ v) b (vs.setIfInBounds i v):=by
 obtain ⟨T,h⟩:=h
 refine ⟨T,?_⟩
 rw [World.setCell]
 simp only [Array.getElem?_modify]
 simp [h]
theorem Blk.get3 {w:World} {b:Nat} {x y z:Value} (h:Blk w b #[x,y,z]) :
  w.cell? ⟨b,0,none⟩=some x∧w.cell? ⟨b,1,none⟩=some y∧w.cell? ⟨b,2,none⟩=some z∧w.frozen? ⟨b,0,none⟩=false∧w.frozen? ⟨b,1,none⟩=false∧w.frozen? ⟨b,2,none⟩=false :=
 ⟨h.cell 0,h.cell 1,h.cell 2,h.frozen 0,h.frozen 1,h.frozen 2⟩
theorem Blk.later3 {w:World} {b:Nat} {x y z:Value} (h:Blk w b #[x,y,z]) :
  (∀ d os,(Sort.grow (redrawn w d) os).cell? ⟨b,0,none⟩=some x)∧(∀ d os,(Sort.grow (redrawn w d) os).cell? ⟨b,1,none⟩=some y)∧(∀ d os,(Sort.grow (redrawn w d) os).cell? ⟨b,2,none⟩=some z) :=
 ⟨cell_regrown (h.cell 0),cell_regrown (h.cell 1),cell_regrown (h.cell 2)⟩
theorem Blk.set3 {w:World} {b:Nat} {x y z:Value} (h:Blk w b #[x,y,z]) (x' y' z' : Value) :
  Blk (((w.setCell ⟨b,0,none⟩ x').setCell ⟨b,1,none⟩ y').setCell ⟨b,2,none⟩ z') b #[x',y',z']:=((h.set 0 x').set 1 y').set 2 z'
theorem Blk.set3Other {w:World} {b b2:Nat} {vs:Array Value} (h:Blk w b vs) (hb:b≠b2) (x' y' z' : Value) :
  Blk (((w.setCell ⟨b2,0,none⟩ x').setCell ⟨b2,1,none⟩ y').setCell ⟨b2,2,none⟩ z') b vs:=((h.setOther _ _ hb).setOther _ _ hb).setOther _ _ hb
theorem below_set3 {B b:Nat} {w w' : World} (h:Below B w w') (hb:B≤b) (x' y' z' : Value) :
  Below B w (((w'.setCell ⟨b,0,none⟩ x').setCell ⟨b,1,none⟩ y').setCell ⟨b,2,none⟩ z'):=((h.setCell hb _).setCell hb _).setCell hb _
theorem chain {B:Nat} {w0 w w' : World} (h:Below B w0 w) (h2:Below w.heap.size w w') (hB:B≤w0.heap.size):Below B w0 w':=h.trans (h2.mono (Nat.le_trans hB h.size))
theorem boxes1 {w w3:World} {vs:Array Value} {T:TypeId} (h:Below (w.alloc (.cells vs T)).heap.size (w.alloc (.cells vs T)) w3) :
  Blk w3 w.heap.size vs∧Below w.heap.size w w3 :=
 ⟨(Blk.new w vs T).on h,chain ((Below.refl _ _).alloc (Nat.le_refl _) _) h (Nat.le_refl _)⟩
theorem boxes2 {w w3:World} {vs us:Array Value} {T U:TypeId} (h:Below ((w.alloc (.cells vs T)).alloc (.cells us U)).heap.size ((w.alloc (.cells vs T)).alloc (.cells us U)) w3) :
  Blk w3 w.heap.size vs∧Blk w3 (w.heap.size+1) us∧Below w.heap.size w w3:=by
 refine ⟨((Blk.new w vs T).alloc _).on h,?_,chain (((Below.refl _ _).alloc (Nat.le_refl _) _).alloc (by simp) _) h (Nat.le_refl _)⟩
 have:=(Blk.new (w.alloc (.cells vs T)) us U).on h
 rwa [World.size_alloc] at this
theorem boxes3 {w w3:World} {vs us ts:Array Value} {T U V:TypeId} (h:Below (((w.alloc (.cells vs T)).alloc (.cells us U)).alloc (.cells ts V)).heap.size (((w.alloc (.cells vs T)).alloc (.cells us U)).alloc (.cells ts V)) w3) :
  Blk w3 w.heap.size vs∧Blk w3 (w.heap.size+1) us∧Blk w3 (w.heap.size+1+1) ts∧Below w.heap.size w w3:=by
 refine ⟨(((Blk.new w vs T).alloc _).alloc _).on h,?_,?_,chain ((((Below.refl _ _).alloc (Nat.le_refl _) _).alloc (by simp) _).alloc (by simp;omega) _) h (Nat.le_refl _)⟩
 ·have:=((Blk.new (w.alloc (.cells vs T)) us U).alloc (.cells ts V)).on h
  rwa [World.size_alloc] at this
 ·have:=(Blk.new ((w.alloc (.cells vs T)).alloc (.cells us U)) ts V).on h
  rwa [World.size_alloc,World.size_alloc] at this
theorem bodyPost_forget {P:Program} {f:Func} {post:Ending→World→Prop} {x:Exit} {a:Act} {w:World} (R:World→Prop) (h:R w) (h2 : ∀ W,R W→bodyPost P f post x a W):bodyPost P f post x a w:=h2 w h
def SReads (w:World) (b off sz n:Nat) (F:Nat→List Value):Prop:=∀ i j,i<n→j<sz→w.cell? ⟨b,off+i*sz+j,none⟩=(F i)[j]?
theorem SReads.below {w w' : World} {b off sz n B:Nat} {F:Nat→List Value} (h:SReads w b off sz n F) (hb:Below B w w') (hB:b<B):SReads w' b off sz n F:=fun i j hi hj=>by
 rw [World.cell?_of_block (w:=w) (a:=⟨b,off+i*sz+j,none⟩) (hb.block b hB)];exact h i j hi hj
def SArg (w:World) (a:Option Addr) (n sz:Nat) (F:Nat→List Value):Prop:=n=0∨∃ b off,a=some ⟨b,off,none⟩∧b<w.heap.size∧SReads w b off sz n F
def SOwn (w:World) (base:Nat) (T:TypeId) (sz:Nat) (v:Value) (n:Nat) (F:Nat→List Value):Prop :=
 w.ownsRow base T sz v n ((List.range n).flatMap F)∧∀ i,i<n→(F i).length=sz
theorem SOwn.nil (w:World) (base:Nat) (T:TypeId) (sz:Nat) (F:Nat→List Value):SOwn w base T sz (.slice none 0 0) 0 F:=⟨⟨by simp,.inl ⟨rfl,rfl⟩⟩,fun i hi=>by omega⟩
theorem SOwn.below {w w' : World} {base B:Nat} {T:TypeId} {sz:Nat} {v:Value} {n:Nat} {F:Nat→List Value} (h:SOwn w base T sz v n F) (hb:Below B w w') (hB:w.heap.size≤B):SOwn w' base T sz v n F:=by
 obtain ⟨⟨h1,h2⟩,h3⟩:=h
 refine ⟨⟨h1,?_⟩,h3⟩
 rcases h2 with h2|⟨g,cap,cur,rfl,hb2,hg,hn,hm,hs,ht⟩
 ·exact .inl h2
 ·exact .inr ⟨g,cap,cur,rfl,hb2,(hb.block g (Nat.lt_of_lt_of_le (Array.getElem?_eq_some_iff.mp hg).1 hB)).trans hg,hn,hm,hs,ht⟩
theorem flatMap_get {F:Nat→List Value} {sz:Nat} : ∀ (n:Nat),(∀ i,i<n→(F i).length=sz)→∀ i j,i<n→j<sz→((List.range n).flatMap F)[i*sz+j]?=(F i)[j]?
 | 0,_,i,j,hi,_=>by omega
 | n+1,hF,i,j,hi,hj=>by
  rw [List.range_succ,List.flatMap_append]
  have hlen:((List.range n).flatMap F).length=n*sz:=by
   clear hi
   induction n with
   | zero=>simp
   | succ n ih =>
    rw [List.range_succ,List.flatMap_append,List.length_append,ih (fun i hi=>hF i (by omega))]
    simp [hF n (by omega),Nat.succ_mul]
  by_cases h:i<n
  ·have h4:i*sz+j<n*sz:=by
    have:=Nat.mul_le_mul_right sz (show i+1≤n by omega)
    rw [Nat.succ_mul] at this;omega
   rw [List.getElem?_append_left (by omega)]
   exact flatMap_get n (fun i hi=>hF i (by omega)) i j h hj
  ·obtain rfl:i=n:=by omega
   rw [List.getElem?_append_right (by omega),hlen,show i*sz+j - i*sz=j by omega]
   simp
theorem SOwn.form {w:World} {base:Nat} {T:TypeId} {sz:Nat} {v:Value} {n:Nat} {F:Nat→List Value} (h:SOwn w base T sz v n F) :
  (v = .slice none 0 0∧n=0)∨∃ g cap,v = .slice (some ⟨g,0,none⟩) n cap∧base≤g∧n≤cap∧cap≤9223372036854775807∧g<w.heap.size∧SReads w g 0 sz n F:=by
 obtain ⟨h0,h3⟩:=h
 obtain ⟨h1,h2⟩:=h0
 rcases h2 with h2|⟨g,cap,cur,rfl,hb,hg,hn,hm,hs,ht⟩
 ·exact .inl h2
 ·refine .inr ⟨g,cap,rfl,hb,hn,hm,(Array.getElem?_eq_some_iff.mp hg).1,fun i j hi hj=>?_⟩
  have hlt:i*sz+j<n*sz:=by
   have:=Nat.mul_le_mul_right sz (show i+1≤n by omega)
   rw [Nat.succ_mul] at this;omega
  have:=World.ownsRow.cellAt ⟨h1,.inr ⟨g,cap,cur,rfl,hb,hg,hn,hm,hs,ht⟩⟩ (i*sz+j) hlt
  rw [Nat.zero_add,this]
  exact flatMap_get n h3 i j hi hj
theorem below_grownS {base sz:Nat} {w w' : World} {T:TypeId} {v:Value} {n:Nat} {xs:List Value} (h:w.ownsRow base T sz v n xs) (hg:w.grownBy w' v.ownBlock) (hb:base≤w.heap.size):Below base w w':=by
 refine (Below.refl _ _).grown hg hb ?_
 intro k hk
 rcases h.2 with ⟨rfl,_⟩|⟨g,cap,cur,rfl,hb2,_⟩
 ·cases hk
 ·have:g=k:=Option.some.inj hk
  omega
theorem info_sz {P:Program} {T:TypeId} {sz bytes:Nat} (h:(P.info? T).map (fun i=>(i.zero.map (fun z=>z.cells.size),i.size,i.bytes))=some (some sz,sz,bytes)) :
  ∃ i z,P.info? T=some i∧i.zero=some z∧z.cells.size=sz∧i.size=sz∧i.bytes=bytes:=by
 cases hi:P.info? T with
 | none=>rw [hi] at h;cases h
 | some i =>
  rw [hi] at h
  simp only [Option.map_some,Option.some.injEq,Prod.mk.injEq] at h
  obtain ⟨h1,h2,h3⟩:=h
  cases hz:i.zero with
  | none=>rw [hz] at h1;cases h1
  | some z =>
   rw [hz] at h1
   exact ⟨i,z,rfl,hz,Option.some.inj h1,h2,h3⟩
theorem wp_appendS {P:Program} {w:World} {o:Oper} {a:Act} {K:Act→World→Prop} {Q:Exit→Act→World→Prop}
  (s x:Operand) (t T:TypeId) (sz bytes:Nat) (base:Nat) (v:Value) (n:Nat) (F:Nat→List Value) (E:List Value)
  (hop:o.op = .call { callee:=.builtin .append,args:=#[s,x],argTypes:=#[t,t] })
  (h1:P.underlying t=some (.slice T)) (h2:(P.info? T).map (fun i=>(i.zero.map (fun z=>z.cells.size),i.size,i.bytes))=some (some sz,sz,bytes)) (hsz:0<sz)
  (hs:a.eval s=v) (hE:E.length=sz) (h1c : ∀ u∈E,u.oneCell' = true) (hx:a.eval x = .slice (some ⟨w.heap.size,0,none⟩) 1 1) (hown:SOwn w base T sz v n F) (hn:(n+1)*bytes≤140737488355328) (hn2:n+1≤4294967296) (hbase:base≤w.heap.size)
  (h : ∀ v' w',SOwn w' base T sz v' (n+1) (fun j=>if j<n then F j else E)→Below base w w'→K (a.put o.dst v') w') :
  o.wp P a (w.alloc (.cells E.toArray T)) K Q:=by
 obtain ⟨i,z,hi,hz,hzs,hsize,hbb⟩:=info_sz h2
 refine wp_append_own _ s x t hop base T i z sz bytes h1 hi hz hsize hbb hzs hsz v n _ hs (World.ownsRow.alloc hown.1 _) ⟨w.heap.size,0,none⟩ 1 1 E hx (by rw [hE,Nat.one_mul]) ?_ h1c (by unfold maxLen;omega) hn (by simp;omega) ?_
 ·intro j u hj
  have e:(⟨w.heap.size,0,none⟩:Addr).add j=⟨w.heap.size,j,none⟩:=by unfold Addr.add;split <;> simp_all
  rw [e,cell_of_row _ _ _ _ _ (0,0) (heap_alloc_new w _)]
  simpa using hj
 ·intro v' w' ho hgr _
  have hbl:Below base w w':=((Below.refl _ _).alloc hbase _).trans (below_grownS (World.ownsRow.alloc hown.1 _) hgr (by simp;omega))
  refine h v' w' ⟨?_,fun i hi=>?_⟩ hbl
  ·have e:(List.range n).flatMap F ++ E=(List.range (n+1)).flatMap (fun j=>if j<n then F j else E):=by
    rw [List.range_succ,List.flatMap_append]
    congr 1
    ·have hc : ∀ (m:Nat),m≤n→(List.range m).flatMap F=(List.range m).flatMap (fun j=>if j<n then F j else E):=by
      intro m
      induction m with
      | zero=>intro _;rfl
      | succ m ih =>
       intro hm
       rw [List.range_succ,List.flatMap_append,List.flatMap_append,ih (by omega)]
       simp [show m<n by omega]
     exact hc n (Nat.le_refl _)
    ·simp
   rw [← e];exact ho
  ·by_cases h:i<n
   ·simp only [h,if_true];exact hown.2 i h
   ·simp only [h,if_false];exact hE
theorem wpList_appendS {P:Program} {w:World} {ops:Array Oper} {rest:List Oper} {o:Oper} {a:Act} {Q:Exit→Act→World→Prop}
  (s x:Operand) (t T:TypeId) (sz bytes:Nat) (base:Nat) (v:Value) (n:Nat) (F:Nat→List Value) (E:List Value)
  (hg:o.guard=none) (hop:o.op = .call { callee:=.builtin .append,args:=#[s,x],argTypes:=#[t,t] })
  (h1:P.underlying t=some (.slice T)) (h2:(P.info? T).map (fun i=>(i.zero.map (fun z=>z.cells.size),i.size,i.bytes))=some (some sz,sz,bytes)) (hsz:0<sz)
  (hs:a.eval s=v) (hE:E.length=sz) (h1c : ∀ u∈E,u.oneCell' = true) (hx:a.eval x = .slice (some ⟨w.heap.size,0,none⟩) 1 1) (hown:SOwn w base T sz v n F) (hn:(n+1)*bytes≤140737488355328) (hn2:n+1≤4294967296) (hbase:base≤w.heap.size)
  (h : ∀ v' w',SOwn w' base T sz v' (n+1) (fun j=>if j<n then F j else E)→Below base w w'→wpList P ops Q rest (a.put o.dst v') w') :
  wpList P ops Q (o::rest) a (w.alloc (.cells E.toArray T)) :=
 wpList_plain hg fun _ hK=>wp_appendS s x t T sz bytes base v n F E hop h1 h2 hsz hs hE h1c hx hown hn hn2 hbase fun v' w' ho hb=>hK _ _ (h v' w' ho hb)
theorem SOwn.congr {w:World} {base:Nat} {T:TypeId} {sz:Nat} {v:Value} {n:Nat} {F G:Nat→List Value} (h:SOwn w base T sz v n F) (hg : ∀ i,i<n→F i=G i):SOwn w base T sz v n G:=by
 obtain ⟨h1,h2⟩:=h
 refine ⟨?_,fun i hi=>by rw [← hg i hi];exact h2 i hi⟩
 have hc : ∀ (m:Nat),m≤n→(List.range m).flatMap F=(List.range m).flatMap G:=by
  intro m
  induction m with
  | zero=>intro _;rfl
  | succ m ih =>
   intro hm
   rw [List.range_succ,List.flatMap_append,List.flatMap_append,ih (by omega)]
   simp [hg m (by omega)]
 rw [← hc n (Nat.le_refl _)];exact h1
end Go.Proofs.Ins
namespace Go.Proofs.Ins
def rn (q:Rat):Bool:=decide (q.num<0)
def rs (q:Rat):ByteArray:=bn q.num.natAbs
def rd (q:Rat):ByteArray:=if q.den=1 then ⟨#[]⟩ else bn q.den
def sgn (n:Bool) (x:Nat):Int:=if n=true then -(x:Int) else (x:Int)
theorem sgn_natAbs (n:Bool) (x:Nat):(sgn n x).natAbs=x:=by unfold sgn;cases n <;> simp
theorem sgn_zero (n:Bool):sgn n 0=0:=by unfold sgn;cases n <;> simp
theorem sgn_neg (n:Bool) {x:Nat} (h:0<x):decide (sgn n x<0)=n:=by unfold sgn;cases n <;> simp;omega
theorem sgn_mul (n m:Bool) (x y:Nat):sgn n x*sgn m y=sgn (n != m) (x*y):=by
 unfold sgn;cases n <;> cases m <;> simp [Int.neg_mul,Int.mul_neg]
theorem sgn_self (i:Int):sgn (decide (i<0)) i.natAbs=i:=by
 unfold sgn;by_cases h:i<0
 ·simp [h];omega
 ·simp [h];omega
def dn (d:ByteArray):Nat:=if nv d=0 then 1 else nv d
theorem dn_pos (d:ByteArray):0<dn d:=by unfold dn;split <;> omega
theorem dn_rd (q:Rat):dn (rd q)=q.den:=by
 unfold dn rd
 by_cases h:q.den=1
 ·rw [if_pos h,h];rfl
 ·rw [if_neg h,nv_bn,if_neg (by have:=q.den_pos;omega)]
def vld (n:Bool) (s d:ByteArray):Prop :=
 bn (nv s)=s∧bn (nv d)=d∧(nv s=0→n=false∧nv d=0)∧(nv d=0∨(nv d≠1∧Nat.gcd (nv s) (nv d)=1))
instance (n:Bool) (s d:ByteArray):Decidable (vld n s d):=by unfold vld;infer_instance
def rq (n:Bool) (s d:ByteArray):Rat:=if vld n s d then mkRat (sgn n (nv s)) (dn d) else 0
theorem vld_of (q:Rat):vld (rn q) (rs q) (rd q):=by
 unfold vld
 have hd:=q.den_pos
 have e:nv (rd q)=if q.den=1 then 0 else q.den:=by
  unfold rd;split
  ·rfl
  ·exact nv_bn _
 refine ⟨by unfold rs;rw [nv_bn],?_,?_,?_⟩
 ·unfold rd;split
  ·rfl
  ·rw [nv_bn]
 ·intro h
  unfold rs at h
  rw [nv_bn] at h
  have h0:q.num=0:=by omega
  have h1:q=0:=Rat.num_eq_zero.mp h0
  subst h1
  exact ⟨rfl,rfl⟩
 ·rw [e]
  by_cases h1:q.den=1
  ·rw [if_pos h1];exact .inl rfl
  ·rw [if_neg h1]
   refine .inr ⟨h1,?_⟩
   unfold rs;rw [nv_bn];exact q.reduced
theorem rq_of (q:Rat):rq (rn q) (rs q) (rd q)=q:=by
 unfold rq
 rw [if_pos (vld_of q),dn_rd]
 unfold rs rn
 rw [nv_bn,sgn_self,Rat.mkRat_self]
theorem vld_num {n:Bool} {s d:ByteArray} (h:vld n s d):(rq n s d).num=sgn n (nv s)∧(rq n s d).den=dn d:=by
 obtain ⟨h1,h2,h3,h4⟩:=h
 unfold rq
 rw [if_pos ⟨h1,h2,h3,h4⟩]
 have hg:(dn d).gcd (sgn n (nv s)).natAbs=1:=by
  rw [sgn_natAbs]
  unfold dn
  rcases h4 with h4|⟨h5,h6⟩
  ·rw [if_pos h4];exact Nat.gcd_one_left _
  ·by_cases h7:nv d=0
   ·rw [if_pos h7];exact Nat.gcd_one_left _
   ·rw [if_neg h7,Nat.gcd_comm];exact h6
 have hd:=dn_pos d
 constructor
 ·rw [Rat.num_mkRat,if_neg (by omega),hg];simp
 ·rw [Rat.den_mkRat,if_neg (by omega),hg];simp
theorem vld_fields {n:Bool} {s d:ByteArray} (h:vld n s d):rn (rq n s d)=n∧rs (rq n s d)=s∧rd (rq n s d)=d:=by
 obtain ⟨e1,e2⟩:=vld_num h
 obtain ⟨h1,h2,h3,h4⟩:=h
 refine ⟨?_,?_,?_⟩
 ·unfold rn;rw [e1]
  rcases Nat.eq_zero_or_pos (nv s) with h5|h5
  ·rw [h5,sgn_zero,(h3 h5).1];rfl
  ·exact sgn_neg n h5
 ·unfold rs;rw [e1,sgn_natAbs,h1]
 ·unfold rd;rw [e2];unfold dn
  rcases h4 with h4|⟨h5,h6⟩
  ·rw [if_pos h4,if_pos rfl,← h2,h4];rfl
  ·by_cases h7:nv d=0
   ·rw [if_pos h7,if_pos rfl,← h2,h7];rfl
   ·rw [if_neg h7,if_neg h5,h2]
theorem rq_bad {n:Bool} {s d:ByteArray} (h : ¬ vld n s d):rq n s d=0:=by unfold rq;rw [if_neg h]
theorem rn_zero:rn 0=false:=rfl
theorem rs_zero:rs 0=⟨#[]⟩:=rfl
theorem rd_zero:rd 0=⟨#[]⟩:=rfl
theorem fields_inj {p q:Rat} (h1:rn p=rn q) (h2:rs p=rs q) (h3:rd p=rd q):p=q:=by
 rw [← rq_of p,← rq_of q,h1,h2,h3]
def fr (n:Bool) (x y:Nat):Rat:=mkRat (sgn n x) y
theorem fr_zero (n:Bool) (y:Nat):fr n 0 y=0:=by unfold fr;rw [sgn_zero,Rat.zero_mkRat]
theorem fr_num {n:Bool} {x y:Nat} (hy:0<y):(fr n x y).num=sgn n (x/Nat.gcd x y)∧(fr n x y).den=y/Nat.gcd x y:=by
 unfold fr
 have hg:y.gcd (sgn n x).natAbs=Nat.gcd x y:=by rw [sgn_natAbs,Nat.gcd_comm]
 constructor
 ·rw [Rat.num_mkRat,if_neg (by omega),hg]
  have hdv:(Nat.gcd x y) ∣ x:=Nat.gcd_dvd_left x y
  unfold sgn
  cases n
  ·simp
  ·simp only [if_true]
   rw [Int.neg_ediv_of_dvd (by exact_mod_cast hdv),Int.natCast_ediv]
 ·rw [Rat.den_mkRat,if_neg (by omega),hg]
theorem fr_fields {n:Bool} {x y:Nat} (hx:0<x) (hy:0<y):rn (fr n x y)=n∧rs (fr n x y)=bn (x/Nat.gcd x y)∧rd (fr n x y)=if y/Nat.gcd x y=1 then ⟨#[]⟩ else bn (y/Nat.gcd x y):=by
 obtain ⟨e1,e2⟩:=fr_num (n:=n) (x:=x) hy
 have h0:0<x/Nat.gcd x y:=Nat.div_pos (Nat.gcd_le_left y hx) (Nat.gcd_pos_of_pos_left y hx)
 refine ⟨?_,?_,?_⟩
 ·unfold rn;rw [e1];exact sgn_neg n h0
 ·unfold rs;rw [e1,sgn_natAbs]
 ·unfold rd;rw [e2]
def nm (q:Rat):Nat:=q.num.natAbs
theorem nm_rs (q:Rat):nv (rs q)=nm q:=nv_bn _
theorem fr_self (q:Rat):fr (rn q) (nm q) q.den=q:=by unfold fr rn nm;rw [sgn_self,Rat.mkRat_self]
theorem sgn_rn (q:Rat):sgn (rn q) (nm q)=q.num:=sgn_self _
theorem nm_zero {q:Rat} : nm q=0↔q=0:=by
 unfold nm;rw [← Rat.num_eq_zero];omega
theorem rn_true {q:Rat} : rn q=true↔q<0:=by
 unfold rn;rw [decide_eq_true_iff,Rat.lt_iff];simp
theorem rn_false {q:Rat} : rn q=false↔0≤q:=by
 unfold rn;rw [decide_eq_false_iff_not,← Rat.num_nonneg];omega
theorem fr_mul (a b:Rat):a*b=fr (rn a != rn b) (nm a*nm b) (a.den*b.den):=by
 unfold fr
 rw [← sgn_mul,sgn_rn,sgn_rn,Rat.mul_def']
theorem fr_div {a b:Rat} (hb:b≠0):a/b=fr (rn a != rn b) (nm a*b.den) (a.den*nm b):=by
 have h1:0<nm b:=Nat.pos_of_ne_zero fun h=>hb (nm_zero.mp h)
 have h2:fr (rn a != rn b) (nm a*b.den) (a.den*nm b)*b=a:=by
  rw [fr_mul]
  have e1:=fr_self a
  have hd:=a.den_pos
  have hbd:=b.den_pos
  generalize hz:fr (rn a != rn b) (nm a*b.den) (a.den*nm b)=z
  have hz0:z=mkRat (sgn (rn a != rn b) (nm a*b.den)) (a.den*nm b):=hz.symm
  rw [← fr_mul,hz0,← fr_self b]
  unfold fr
  rw [Rat.mkRat_mul_mkRat,sgn_mul]
  rw [show nm (mkRat (sgn (rn b) (nm b)) b.den)=nm b by have:=fr_self b;unfold fr at this;rw [this]]
  rw [show rn (mkRat (sgn (rn b) (nm b)) b.den)=rn b by have:=fr_self b;unfold fr at this;rw [this]]
  rw [show (mkRat (sgn (rn b) (nm b)) b.den).den=b.den by have:=fr_self b;unfold fr at this;rw [this]]
  have e3:((rn a != rn b) != rn b)=rn a:=by cases rn a <;> cases rn b <;> rfl
  rw [e3]
  have e4:sgn (rn a) (nm a*b.den*nm b)=sgn (rn a) (nm a)*((b.den*nm b:Nat):Int):=by
   unfold sgn;cases rn a <;> simp [Int.mul_assoc,Int.neg_mul]
  rw [e4,sgn_rn]
  rw [show a.den*nm b*b.den=a.den*(b.den*nm b) by rw [Nat.mul_assoc,Nat.mul_comm (nm b)]]
  rw [Rat.mkRat_mul_right (by have:=Nat.mul_pos hbd h1;omega),Rat.mkRat_self]
 rw [Rat.div_def]
 have h3:fr (rn a != rn b) (nm a*b.den) (a.den*nm b)*(b*b⁻¹)=a*b⁻¹:=by rw [← Rat.mul_assoc,h2]
 rw [Rat.mul_inv_cancel _ hb,Rat.mul_one] at h3
 exact h3.symm
theorem fr_add (a b:Rat):a+b=mkRat (sgn (rn a) (nm a*b.den)+sgn (rn b) (nm b*a.den)) (a.den*b.den):=by
 rw [Rat.add_def']
 congr 2
 ·rw [← sgn_rn a];unfold sgn;cases rn a <;> simp [Int.neg_mul]
 ·rw [← sgn_rn b];unfold sgn;cases rn b <;> simp [Int.neg_mul]
theorem sgn_add_same (n:Bool) (x y:Nat):sgn n x+sgn n y=sgn n (x+y):=by unfold sgn;cases n <;> simp;omega
theorem sgn_add_diff {n m:Bool} (h:n≠m) {x y:Nat} (hle:y≤x):sgn n x+sgn m y=sgn n (x - y):=by
 unfold sgn;cases n <;> cases m <;> simp at h <;> simp <;> omega
theorem fr_add_same {a b:Rat} (h:a.den=b.den):a+b=mkRat (sgn (rn a) (nm a)+sgn (rn b) (nm b)) a.den:=by
 have hd:=a.den_pos
 rw [fr_add,← h]
 have e:sgn (rn a) (nm a*a.den)+sgn (rn b) (nm b*a.den)=(sgn (rn a) (nm a)+sgn (rn b) (nm b))*(a.den:Int):=by
  rw [Int.add_mul];congr 1
  ·unfold sgn;cases rn a <;> simp [Int.neg_mul]
  ·unfold sgn;cases rn b <;> simp [Int.neg_mul]
 rw [e,Rat.mkRat_mul_right (by omega)]
def sg (q:Rat):Int:=if q=0 then 0 else if q<0 then -1 else 1
def cmpR (a b:Rat):Int:=sg (a - b)
theorem sg_zero {q:Rat} (h:nm q=0):sg q=0:=by unfold sg;rw [if_pos (nm_zero.mp h)]
theorem sg_neg {q:Rat} (h:rn q=true):sg q = -1:=by
 have h1:=rn_true.mp h
 unfold sg;rw [if_neg (by rintro rfl;exact Rat.lt_irrefl h1),if_pos h1]
theorem sg_pos {q:Rat} (h:rn q=false) (h2:nm q≠0):sg q=1:=by
 have h1:=rn_false.mp h
 unfold sg;rw [if_neg (fun e=>h2 (nm_zero.mpr e)),if_neg (by rw [Rat.not_lt];exact h1)]
theorem cmpR_lt {a b:Rat} (h:a<b):cmpR a b = -1:=by
 unfold cmpR sg
 have h1:a - b<0:=by grind
 rw [if_neg (by intro e;rw [e] at h1;exact Rat.lt_irrefl h1),if_pos h1]
theorem cmpR_gt {a b:Rat} (h:b<a):cmpR a b=1:=by
 unfold cmpR sg
 have h1:0<a - b:=by grind
 rw [if_neg (by intro e;rw [e] at h1;exact Rat.lt_irrefl h1),if_neg (by grind)]
theorem cmpR_eq (a:Rat):cmpR a a=0:=by
 unfold cmpR;rw [Rat.sub_self];rfl
def Sm (k:Nat) (q:Rat):Prop:=nm q<256 ^ k∧q.den<256 ^ k
theorem Sm.mono {k l:Nat} {q:Rat} (h:Sm k q) (hkl:k≤l):Sm l q :=
 ⟨Nat.lt_of_lt_of_le h.1 (Nat.pow_le_pow_right (by omega) hkl),Nat.lt_of_lt_of_le h.2 (Nat.pow_le_pow_right (by omega) hkl)⟩
theorem Sm.rs {k:Nat} {q:Rat} (h:Sm k q):(rs q).size≤k:=bn_size_le h.1
theorem Sm.rd {k:Nat} {q:Rat} (h:Sm k q):(rd q).size≤k:=by
 unfold Ins.rd;split
 ·exact Nat.zero_le _
 ·exact bn_size_le h.2
theorem sm_zero (k:Nat) (hk:0<k):Sm k 0:=⟨Nat.pow_pos (by omega),by
 show 1<256 ^ k
 exact Nat.one_lt_pow (by omega) (by omega)⟩
theorem sm_rq {n:Bool} {s d:ByteArray} {k:Nat} (hs:s.size≤k) (hd:d.size≤k) (hk:0<k):Sm k (rq n s d):=by
 by_cases h:vld n s d
 ·obtain ⟨e1,e2⟩:=vld_num h
  constructor
  ·unfold nm;rw [e1,sgn_natAbs]
   exact Nat.lt_of_lt_of_le (nv_lt s) (Nat.pow_le_pow_right (by omega) hs)
  ·rw [e2];unfold dn
   split
   ·exact Nat.one_lt_pow (by omega) (by omega)
   ·exact Nat.lt_of_lt_of_le (nv_lt d) (Nat.pow_le_pow_right (by omega) hd)
 ·rw [rq_bad h];exact sm_zero k hk
theorem sm_fr {n:Bool} {x y k:Nat} (hx:x<256 ^ k) (hy:y<256 ^ k) (hy0:0<y):Sm k (fr n x y):=by
 obtain ⟨e1,e2⟩:=fr_num (n:=n) (x:=x) hy0
 constructor
 ·unfold nm;rw [e1,sgn_natAbs];exact Nat.lt_of_le_of_lt (Nat.div_le_self _ _) hx
 ·rw [e2];exact Nat.lt_of_le_of_lt (Nat.div_le_self _ _) hy
theorem pow_mul_lt {x y k l:Nat} (hx:x<256 ^ k) (hy:y<256 ^ l):x*y<256 ^ (k+l):=by
 rw [Nat.pow_add]
 have h0:0<256 ^ k:=Nat.pow_pos (by omega)
 rcases Nat.eq_zero_or_pos y with rfl|h
 ·rw [Nat.mul_zero];exact Nat.mul_pos h0 (Nat.pow_pos (by omega))
 ·exact Nat.lt_of_lt_of_le (Nat.mul_lt_mul_of_pos_right hx h) (Nat.mul_le_mul_left _ (Nat.le_of_lt hy))
theorem Sm.div {k l:Nat} {a b:Rat} (h:Sm k a) (h2:Sm l b) (hb:b≠0):Sm (k+l) (a/b):=by
 rw [fr_div hb]
 exact sm_fr (pow_mul_lt h.1 h2.2) (pow_mul_lt h.2 h2.1) (Nat.mul_pos a.den_pos (Nat.pos_of_ne_zero fun h=>hb (nm_zero.mp h)))
theorem mkRat_fr (i:Int) (y:Nat):mkRat i y=fr (decide (i<0)) i.natAbs y:=by unfold fr;rw [sgn_self]
theorem Sm.add {k l:Nat} {a b:Rat} (h:Sm k a) (h2:Sm l b):Sm (k+l+1) (a+b):=by
 rw [fr_add,mkRat_fr]
 have h3:=pow_mul_lt h.1 h2.2
 have h4:=pow_mul_lt h2.1 h.2
 have h5:=pow_mul_lt h.2 h2.2
 rw [Nat.add_comm l k] at h4
 have e:(256:Nat) ^ (k+l+1)=256*256 ^ (k+l):=by rw [Nat.pow_succ,Nat.mul_comm]
 refine sm_fr ?_ (by rw [e];omega) (Nat.mul_pos a.den_pos b.den_pos)
 have h6:(sgn (rn a) (nm a*b.den)+sgn (rn b) (nm b*a.den)).natAbs≤nm a*b.den+nm b*a.den:=by
  have:=Int.natAbs_add_le (sgn (rn a) (nm a*b.den)) (sgn (rn b) (nm b*a.den))
  rw [sgn_natAbs,sgn_natAbs] at this;exact this
 rw [e];omega
theorem Sm.neg {k:Nat} {a:Rat} (h:Sm k a):Sm k (-a):=by
 refine ⟨?_,h.2⟩
 have:nm (-a)=nm a:=by unfold nm;rw [Rat.neg_num];exact Int.natAbs_neg _
 rw [this];exact h.1
theorem rn_neg {a:Rat} (h:nm a≠0):rn (-a) = !(rn a):=by
 unfold rn;rw [Rat.neg_num];unfold nm at h
 generalize a.num=i at *
 by_cases h1:i<0
 ·rw [decide_eq_true h1,decide_eq_false (by omega)];rfl
 ·rw [decide_eq_false h1,decide_eq_true (by omega)];rfl
theorem rs_neg (a:Rat):rs (-a)=rs a:=by unfold rs;rw [Rat.neg_num,Int.natAbs_neg]
theorem rd_neg (a:Rat):rd (-a)=rd a:=rfl
theorem Sm.sub {k l:Nat} {a b:Rat} (h:Sm k a) (h2:Sm l b):Sm (k+l+1) (a - b):=by
 rw [Rat.sub_eq_add_neg];exact h.add h2.neg
end Go.Proofs.Ins
namespace Go.Proofs.Ins
open Go.RowKit
theorem ar9:type_of% (And.intro @IntWalk.i64_in (And.intro @IntWalk.u64_in (And.intro @IntWalk.u32_in (And.intro @IntWalk.u16_in (And.intro @IntWalk.u8_in (And.intro @Int.tmod_eq_emod_of_nonneg @Int.tdiv_eq_ediv_of_nonneg)))))) :=
 And.intro @IntWalk.i64_in (And.intro @IntWalk.u64_in (And.intro @IntWalk.u32_in (And.intro @IntWalk.u16_in (And.intro @IntWalk.u8_in (And.intro @Int.tmod_eq_emod_of_nonneg @Int.tdiv_eq_ediv_of_nonneg)))))
end Go.Proofs.Ins
