/- The walk of fH.aeX. -/
import Derived.Test.YtjonjhcaniinaaaGreatDoorZ21
import Derived.Lib.OwnBridge
set_option linter.all false
set_option maxRecDepth 100000
set_option maxHeartbeats 8000000
namespace Go.Proofs.Ins
open Go.RowKit
theorem y9 {F:Nat→List Value} {sz:Nat} : ∀ (n:Nat),(∀ i,i<n→(F i).length=sz)→((List.range n).flatMap F).length=n*sz
 | 0,_=>by simp
 | n+1,h=>by
  rw [List.range_succ,List.flatMap_append,List.length_append,y9 n (fun i hi=>h i jb)]
  simp [h n jb,Nat.succ_mul]
def cJ (l:List Int) (j:Nat):List Value:=[.int .i64 (l.getD j 0)]
theorem Y8 (l:List Int):(List.range l.length).flatMap (cJ l)=l.map (Value.int .i64):=by
 apply List.ext_getElem?
 intro j
 by_cases h:j<l.length
 ·have:=uJ (sz:=1) (F:=cJ l) l.length (fun i _=>rfl) j 0 h jb
  rw [Nat.mul_one,Nat.add_zero] at this
  rw [this];simp [cJ,h]
 ·rw [List.getElem?_eq_none,List.getElem?_eq_none]
  ·simpa using h
  ·rw [y9 (sz:=1) l.length (fun i _=>rfl)];omega
theorem aiN (l:List Int) (x:Int) (j:Nat) (hj:j<l.length+1):(if j<l.length then cJ l j else [.int .i64 x])=cJ (l ++ [x]) j:=by
 unfold cJ
 by_cases h:j<l.length
 ·rw [if_pos h];simp [List.getElem?_append_left h]
 ·obtain rfl:j=l.length:=jb
  rw [if_neg h];simp
theorem Dx {w:World} {base:Nat} {T:TypeId} {v:Value} {l:List Int} : ku w base T 1 v l.length (cJ l)↔w.ownsRow base T 1 v l.length (l.map (Value.int .i64)):=by
 unfold ku
 rw [Y8]
 exact ⟨fun h=>h.1,fun h=>⟨h,fun _ _=>rfl⟩⟩
theorem below_grow {B:Nat} {w0 w:World} {os:Array Obj} (h:Below B w0 w) (hB:B≤w.heap.size):Below B w0 (Sort.grow w os) :=
 ⟨h.os,h.tape,h.output,by have:=h.size;simp [Sort.grow];omega,fun k hk=>by rw [← h.block k hk];exact Sort.heap_grow_old w os jb⟩
theorem ownsRow_grow {w:World} {base:Nat} {T:TypeId} {v:Value} {n:Nat} {xs:List Value} {os:Array Obj} (h:w.ownsRow base T 1 v n xs):(Sort.grow w os).ownsRow base T 1 v n xs:=by
 obtain ⟨h1,h2⟩:=h
 refine ⟨h1,?_⟩
 rcases h2 with h2|⟨g,cap,cur,hv,hb,hg,r⟩
 ·exact .inl h2
 ·exact .inr ⟨g,cap,cur,hv,hb,by rw [Sort.heap_grow_old w os (Array.getElem?_eq_some_iff.mp hg).1];exact hg,r⟩
theorem Ui {w:World} {base:Nat} {T:TypeId} {sz n:Nat} {F:Nat→List Value} (h:ku w base T sz (.slice none 0 0) n F):n=0:=by
 obtain ⟨⟨-,h1⟩,-⟩:=h
 rcases h1 with ⟨-,h1⟩|⟨g,cap,cur,h1,-⟩
 ·exact h1
 ·cases h1
theorem aeV (w:World) (base:Nat) (v:Value) (l:List Int) (h:ku w base 3 1 v l.length (cJ l)) (hb:base≤w.heap.size) (hl:l.length<4611686018427387904) :
  Calls Tryz.prog 126 #[v] w fun e w'=>e = .returned (.tuple #[])∧∃ l' : List Int,l'.length=l.length∧(∀ x,x∈l'↔x∈l)∧ku w' base 3 1 v l'.length (cJ l')∧Below base w w'∧l' = l.mergeSort fun x y=>decide (x≤y):=by
 by_cases hv:v = .slice none 0 0
 ·subst hv
  refine (Tryz.slices_Sort_int_none none 0 w).mono fun e w' ⟨he,hw⟩=>⟨he,l,rfl,fun _=>Iff.rfl,by rw [hw];exact h,by rw [hw];exact Below.refl _ _,by rw [List.eq_nil_of_length_eq_zero (Ui h)];simp⟩
 ·have hr:=Dx.mp h
  obtain ⟨g,cap,rfl,h1,h2,h3,h4,h5,h6⟩:=Lib.holds_of_ownsRow hr hv
  refine (Tryz.slices_Sort_int g 0 cap l w h6 h2 hl).mono ?_
  rintro e w' ⟨he,n,os,rfl⟩
  refine ⟨he,l.mergeSort fun x y=>decide (x≤y),by rw [List.length_mergeSort],fun x=>List.mem_mergeSort,Dx.mpr ?_,below_grow (Lib.below_putRow (Below.refl base w) h1) (by simpa [Sort.putRow,Sort.mapBlock,Sort.ahead] using hb),rfl⟩
  refine ownsRow_grow ?_
  have:=Lib.ownsRow_putRow (q:=n) (k:=l.length) (ys:=l.mergeSort fun x y=>decide (x≤y)) hr (by rw [List.length_mergeSort]) jp
  rw [List.take_of_length_le (by rw [List.length_mergeSort];omega)] at this
  rw [List.length_mergeSort];exact this
theorem Uj (w:World) (base:Nat) (v:Value) (l:List Int) (h:ku w base 3 1 v l.length (cJ l)) (hl:l.length≤9223372036854775807) :
  Calls Tryz.prog 127 #[v] w fun e w'=>∃ v' l',e = .returned v'∧l'.length≤l.length∧(∀ x,x∈l'↔x∈l)∧ku w' base 3 1 v' l'.length (cJ l')∧Below base w w'∧l' = Lib.compact l∧(v = .slice none 0 0→v' = .slice none 0 0):=by
 by_cases hv:v = .slice none 0 0
 ·subst hv
  refine (Tryz.slices_Compact_int_empty none 0 w).mono fun e w' ⟨he,hw⟩=>⟨_,l,he,jp,fun _=>Iff.rfl,by rw [hw];exact h,by rw [hw];exact Below.refl _ _,by rw [List.eq_nil_of_length_eq_zero (Ui h)];rfl,fun h=>h⟩
 ·have hr:=Dx.mp h
  obtain ⟨g,cap,rfl,h1,h2,h3,h4,h5,h6⟩:=Lib.holds_of_ownsRow hr hv
  refine (Tryz.slices_Compact_int g 0 cap l w h6 hl h3).mono ?_
  rintro e w' ⟨he,q,rfl⟩
  have hle:=Lib.compact_length_le l
  refine ⟨_,Lib.compact l,he,hle,fun x=>mem_compact,Dx.mpr ?_,Lib.below_putRow (Below.refl base w) h1,rfl,fun h=>absurd h hv⟩
  have:=Lib.ownsRow_putRow (q:=q) (k:=(Lib.compact l).length) (ys:=Lib.compact l ++ List.replicate (l.length - (Lib.compact l).length) 0) hr (by simp;omega) hle
  rw [List.take_left] at this
  exact this
def Xm (l:List x9) (k:Nat):List Int:=((l.take k).map fun x=>x.k).filter fun x=>x != -1
theorem aeW (l:List x9):Xm l 0=[]:=by simp [Xm]
theorem aiO {l:List x9} {k:Nat} (h:k<l.length) (h2:(ix l k).k≠-1):Xm l (k+1)=Xm l k ++ [(ix l k).k]:=by
 unfold Xm;rw [aZ h];simp [h2]
theorem ana {l:List x9} {k:Nat} (h:k<l.length) (h2:(ix l k).k = -1):Xm l (k+1)=Xm l k:=by
 unfold Xm;rw [aZ h];simp [h2]
theorem aiP (l:List x9) (k:Nat):(Xm l k).length≤k:=by
 unfold Xm
 refine Nat.le_trans (List.length_filter_le _ _) ?_
 simp;omega
theorem aiQ {a:fK} {c:Int} : c∈Xm a.flatten a.flatten.length↔c≠-1∧Dw a c=true:=by
 unfold Xm Dw memT
 rw [List.take_length,List.mem_filter,List.mem_map,List.any_eq_true]
 constructor
 ·rintro ⟨⟨x,hx,rfl⟩,h⟩
  obtain ⟨t,ht,hx⟩:=List.mem_flatten.mp hx
  exact ⟨by simpa using h,t,ht,List.any_eq_true.mpr ⟨x,hx,by simp⟩⟩
 ·rintro ⟨h,t,ht,h2⟩
  obtain ⟨x,hx,e⟩:=List.any_eq_true.mp h2
  have e:x.k=c:=by simpa using e
  exact ⟨⟨x,List.mem_flatten.mpr ⟨t,ht,hx⟩,e⟩,by simpa using h⟩
def ap8 (w:World) (T:TypeId) (a:fK) (e:Ending) (w' : World):Prop :=
 ∃ v l,e = .returned v∧l.length≤a.flatten.length∧(∀ c,c∈l↔c≠-1∧Dw a c=true)∧ku w' w.heap.size T 1 v l.length (cJ l)∧Below w.heap.size w w'∧l=vO a∧(l=[]→v = .slice none 0 0)
theorem F8 (p:Nat→Prop) (v:Value) (a:fK) (w:World) (hA:kT w p v a) (la:a.length≤140737488351232) (lf:a.flatten.length≤1000000) :
  Calls Tryz.prog 90 #[.agg #[v]] w (ap8 w 3 a):=by
 have HC:=jx (fun w' (h:kT w' p v a)=>F7 p v a w' h la lf)
 have HA:=jx hA
 have HM:=jx (fun c=>aiQ (a:=a) (c:=c))
 have HY:=jx (fun k h h2=>aiO (l:=a.flatten) (k:=k) h h2)
 have HN:=jx (fun k h h2=>ana (l:=a.flatten) (k:=k) h h2)
 have HL:=jx (aiP a.flatten)
 have H0:=jx (aeW a.flatten)
 have HML:=jx (show vO a=Lib.compact ((Xm a.flatten a.flatten.length).mergeSort fun x y=>decide (x≤y)) by unfold vO Xm;rw [List.take_length])
 unfold ap8
 clear hA
 generalize hmm:Xm a.flatten=MK at *
 generalize hfl:a.flatten=fl at *
 clear hmm hfl
 generalize hN:fl.length=N at *
 go_enter Tryz.func90,Tryz.ntmps90
 go_wp2_with fail
 refine (HC.out _ (HA.out.on ((Below.refl _ _).alloc jp _))).mono ?_
 rintro e w1 ⟨v1,rfl,ho1,hb1⟩
 obtain ⟨-,HB⟩:=fZ hb1
 have HB:=jx HB
 have hz1:=HB.out.size
 have hsl:=ho1.sl
 obtain ⟨a1,cap1,rfl,-,-⟩:=hsl.form
 have HSL:=jx hsl
 clear ho1 hb1 hsl HC HA
 go_wp2_with fail
 go_loopw [3,10] (fun v i wr=>∃ k:Nat,i = .int .i64 k∧k≤N∧ku wr w1.heap.size 3 1 v (MK k).length (cJ (MK k))∧Below w1.heap.size w1 wr∧Hid (MK k=[]→v = .slice none 0 0)) (fun _ i _=>N - (intOf i).toNat)
 case atStart=>exact ⟨0,rfl,jb,by rw [H0.out];exact ku.nil _ _ _ _ _,Below.refl _ _,jx fun _=>rfl⟩
 case round =>
  obtain ⟨k,rfl,hk,hown,hbel,HNV⟩:=hrel
  have HO:=jx hown
  have Dy:=jx hbel
  have hsz:=hbel.size
  by_cases hlt:k<N
  ·obtain ⟨b,off,rfl,-,-,-⟩:=HSL.out.get jb
   have e0:=HSL.out.cellAt rfl hbel (i:=k) (j:=0) hlt jb
   have e1:wr.cell? ⟨b,off+k*5+1,none⟩=some (Value.bool (ix fl k).b):=HSL.out.cellAt rfl hbel (i:=k) (j:=1) hlt jb
   have e2:wr.cell? ⟨b,off+k*5+2,none⟩=some (Value.bool (ix fl k).a.n):=HSL.out.cellAt rfl hbel (i:=k) (j:=2) hlt jb
   have e3:wr.cell? ⟨b,off+k*5+3,none⟩=some (Value.string (ix fl k).a.s):=HSL.out.cellAt rfl hbel (i:=k) (j:=3) hlt jb
   have e4:wr.cell? ⟨b,off+k*5+4,none⟩=some (Value.string (ix fl k).a.d):=HSL.out.cellAt rfl hbel (i:=k) (j:=4) hlt jb
   rw [Nat.add_zero] at e0
   have e0' : wr.cell? ⟨b,off+k*5,none⟩=some (Value.int .i64 (ix fl k).k):=e0
   have HYK:=jx (HY.out k jb)
   have HNK:=jx (HN.out k jb)
   have hlk:=HL.out k
   have i1:(0:Int)≤(k:Int):=jb
   have i2:(k:Int)<(N:Int):=jb
   clear e0 hown hbel HY HN HL HM
   generalize ap9:MK (k+1)=M1 at *
   have HM1:=jx ap9
   generalize arY:MK k=M0 at *
   clear ap9 arY
   generalize (ix fl k).k=x at *
   generalize (ix fl k).b=pb at *
   generalize (ix fl k).a.n=an at *
   generalize (ix fl k).a.s=as' at *
   generalize (ix fl k).a.d=ad at *
   by_cases hx:x = -1
   ·have h1:(x != -1)=false:=by simp [hx]
    have HX:=jx (HNK.out hx)
    clear HYK HNK
    go_wp2
    go_roundw
    case rel=>exact ⟨k+1,by go_num,jb,by rw [HM1.out,HX.out];exact HO.out.below ((Below.refl _ _).alloc jp _) jp,Dy.out.alloc jb _,jx fun h=>HNV.out (by rwa [HM1.out,HX.out] at h)⟩
    case measure=>simp [intOf];omega
   ·have h1:(x != -1)=true:=by simp [hx]
    have HX:=jx (HYK.out hx)
    have HO2:=jx (HO.out.below ((Below.refl wr.heap.size wr).alloc jp (.cells #[.int .i64 x,.bool pb,.bool an,.string as',.string ad] 93)) jp)
    have hz2:(wr.alloc (.cells #[.int .i64 x,.bool pb,.bool an,.string as',.string ad] 93)).heap.size=wr.heap.size+1:=by simp
    clear HYK HNK
    go_wp2_with (refine IQ _ _ 123 3 1 8 w1.heap.size _ _ _ [.int .i64 x] (by rfl) (by rfl) Tryz.underlying123 aiM jb (by rfl) (by rfl) (by simp [Value.oneCell']) (by rw [World.size_alloc];rfl) HO2.out jb jb (by rw [World.size_alloc];omega) ?_;intro v9 w9 ho9 bD;have HO9:=jx ho9;have HB9:=jx bD;clear ho9 bD)
    go_roundw
    case rel =>
     refine ⟨k+1,by go_num,jb,?_,(Dy.out.alloc jb _).trans HB9.out,jx fun h=>by rw [HM1.out,HX.out] at h;simp at h⟩
     rw [HM1.out,HX.out,List.length_append]
     exact HO9.out.congr fun j hj=>aiN _ _ j hj
    case measure=>simp [intOf];omega
  ·obtain rfl:k=N:=jb
   have hnl:decide ((k:Int)<(k:Int))=false:=by simp
   have hlk:=HL.out k
   have HST:=jx (aeV wr w1.heap.size u3 (MK k) hown jb jb)
   go_wp2_with fail
   refine HST.out.mono ?_
   rintro e w2 ⟨rfl,l2,hl2,hm2,ho2,hb2,hs2⟩
   have HCP:=jx (Uj w2 w1.heap.size u3 l2 ho2 jb)
   have HB2:=jx (Dy.out.trans hb2)
   have HM2:=jx hm2
   have HS2:=jx hs2
   clear ho2 hb2 HST hm2 hown hbel hs2
   go_wp2_with fail
   refine HCP.out.mono ?_
   rintro e w3 ⟨v3,l3,rfl,hl3,hm3,ho3,hb3,hc3,hn3⟩
   have HO3:=jx ho3
   have HM3:=jx hm3
   have HB3:=jx (HB2.out.trans hb3)
   have HC3:=jx hc3
   have HN3:=jx hn3
   clear ho3 hm3 hb3 hc3 hn3
   go_wp2
   go_ret
   exact ⟨_,l3,rfl,jb,fun c=>by rw [HM3.out,HM2.out,HM.out],HO3.out.mono jb,chain HB.out HB3.out jp,by rw [HC3.out,HS2.out,HML.out],fun h=>HN3.out (HNV.out (List.eq_nil_iff_forall_not_mem.mpr fun x hx=>by have:=(HM3.out x).mpr ((HM2.out x).mpr hx);rw [h] at this;cases this))⟩
theorem Y9 {f:Nat→Int} {n:Nat} : ∀ m,mD f (n+m)=if mD f n=0 then mD (fun j=>f (n+j)) m else mD f n
 | 0=>by
  show mD f n=_
  split
  ·rename_i h;rw [h];rfl
  ·rfl
 | m+1=>by
  show (if mD f (n+m)=0 then f (n+m) else mD f (n+m))=_
  rw [Y9 m]
  by_cases h:mD f n=0
  ·rw [if_pos h,if_pos h];rfl
  ·rw [if_neg h,if_neg h,if_neg h]
theorem aeY {α:Type} [Inhabited α] (g:α→Int) (l1 l2:List α):mD (fun i=>g (ix (l1 ++ l2) i)) (l1 ++ l2).length=if mD (fun i=>g (ix l1 i)) l1.length=0 then mD (fun i=>g (ix l2 i)) l2.length else mD (fun i=>g (ix l1 i)) l1.length:=by
 rw [List.length_append,Y9]
 have e1:mD (fun i=>g (ix (l1 ++ l2) i)) l1.length=mD (fun i=>g (ix l1 i)) l1.length:=Ag fun i hi=>by rw [Xk,if_pos hi]
 have e2:mD (fun j=>g (ix (l1 ++ l2) (l1.length+j))) l2.length=mD (fun i=>g (ix l2 i)) l2.length:=Ag fun i hi=>by rw [Xk,if_neg jb];congr 2;omega
 rw [e1,e2]
theorem F9 {α:Type} [Inhabited α] (g:α→Int) (a:List (List α)) : ∀ k,k≤a.length→mD (fun i=>mD (fun j=>g (ix (ix a i) j)) (ix a i).length) k=mD (fun i=>g (ix (a.take k).flatten i)) (a.take k).flatten.length
 | 0,_=>by simp [mD]
 | k+1,h=>by
  rw [aZ jb,List.flatten_append,List.flatten_singleton,aeY,← F9 g a k jb]
  show (if _ then _ else _)=_
  rfl
theorem abz {n:Nat} {tk:Int→Bool} {a:fK} (h:yc a=false):uD n tk a=mD (fun i=>rQ n tk (ix a.flatten i)) a.flatten.length:=by
 unfold uD;rw [if_neg (by rw [h];simp)]
 have:=F9 (rQ n tk) a a.length jp
 rw [List.take_length] at this
 exact this
theorem abA {a:fK} : yc a=(decide (24<a.length) || Qe (fun i=>EW (ix a i)) a.length):=by
 unfold yc
 congr 1
 rw [Bool.eq_iff_iff]
 constructor
 ·intro h
  obtain ⟨x,hx,h2⟩:=List.any_eq_true.mp h
  obtain ⟨i,hi,rfl⟩:=List.getElem_of_mem hx
  exact NZ (p:=fun i=>EW (ix a i)) hi (by rw [dZ hi];exact h2)
 ·intro h
  rw [List.any_eq_true]
  by_cases h2 : ∀ i,i<a.length→EW (ix a i)=false
  ·rw [JW h2] at h;cases h
  ·obtain ⟨i,h3⟩:=Classical.not_forall.mp h2
   obtain ⟨hi,h4⟩:=Classical.not_imp.mp h3
   exact ⟨_,jQ hi,show EW (ix a i)=true from by simpa using h4⟩
theorem Gf {a:fK} (h:yc a=false):a.flatten.length≤576:=by
 have:=uY.mp h
 have hk : ∀ k,k≤a.length→(a.take k).flatten.length≤24*k:=by
  intro k
  induction k with
  | zero=>intro _;simp
  | succ k ih =>
   intro hk
   rw [aZ jb,List.flatten_append,List.flatten_singleton,List.length_append]
   have:=ih jb
   have:=(uY.mp h).2 k jb
   omega
 have:=hk a.length jp
 rw [List.take_length] at this
 omega
def cT (tk:Int→Bool) (i:Nat):List Value:=[.bool (tk (i:Int))]
theorem abB {a:fK} {k:Nat} {q:x9→Prop} (h : ∀ i j,i<a.length→j<(ix a i).length→q (ix (ix a i) j)) (hk:k<a.flatten.length):q (ix a.flatten k):=by
 obtain ⟨t,ht,hx⟩:=List.mem_flatten.mp (jQ hk)
 obtain ⟨i,hi,rfl⟩:=List.getElem_of_mem ht
 obtain ⟨j,hj,e⟩:=List.getElem_of_mem hx
 have:=h i j hi (by rw [dZ hi];exact hj)
 rw [dZ hi,dZ hj] at this
 rw [← e];exact this
theorem Qg (p:Nat→Prop) (v:Value) (a:fK) (at' : Option Addr) (n ct:Nat) (tk:Int→Bool) (w:World) (hA:kT w p v a) (hT:OG w at' n 1 (cT tk)) (la:a.length≤140737488351232) (hn:n≤140737488351232)
  (ff : ∀ i j,i<a.length→j<(ix a i).length→(ix (ix a i) j).a.fits 134217728) :
  Calls Tryz.prog 89 #[.agg #[v],.slice at' n ct] w fun e w'=>e = .returned (.int .i64 (uD n tk a))∧Below w.heap.size w w':=by
 have HCT:=jx (fun w' (h:kT w' p v a)=>MG p v a w' h la)
 have Et:=jx (fun w' (h:kT w' p v a) lf=>F7 p v a w' h la lf)
 have HA:=jx hA
 have HTA:=jx hT
 have HFF:=jx (fun k (hk:k<a.flatten.length)=>abB (q:=fun x=>x.a.fits 134217728) ff hk)
 have hlt:=abA (a:=a)
 have Uk:=jx (fun h=>EU (n:=n) (tk:=tk) (a:=a) h)
 have JY:=jx (fun h=>abz (n:=n) (tk:=tk) (a:=a) h)
 have HLE:=jx (fun h=>Gf (a:=a) h)
 obtain ⟨aa,cap,rfl,-,-⟩:=(show ∃ aa ca,v = .slice aa a.length ca∧True∧True from by obtain ⟨G,hS,-⟩:=hA;obtain ⟨x,y,h,-,-⟩:=hS.form;exact ⟨x,y,h,trivial,trivial⟩)
 clear hA hT ff
 generalize uD n tk a=R at *
 generalize yc a=lg at *
 generalize Qe (fun i=>EW (ix a i)) a.length=tl at *
 generalize hff:a.flatten=fl at *
 clear hff
 generalize hna:a.length=na at *
 have hw1 : ∀ o,Below w.heap.size w (w.alloc o):=fun o=>(Below.refl _ _).alloc jp _
 have HW1:=jx hw1
 by_cases g1:24<na
 ·have d1:decide (24<na)=true:=decide_eq_true g1
  have d1' : decide ((24:Int)<(na:Int))=true:=by simp;omega
  have HR:=jx (Uk.out (by rw [hlt,d1];rfl))
  clear Uk JY HLE hlt hw1
  go_enter Tryz.func89,Tryz.ntmps89
  go_wp2
  go_ret
  exact ⟨aW HR.out.symm,HW1.out _⟩
 ·have d1:decide (24<na)=false:=decide_eq_false g1
  have d1' : decide ((24:Int)<(na:Int))=false:=by simp;omega
  rw [d1,Bool.false_or] at hlt
  subst hlt
  cases lg
  ·have HLE:=HLE.out rfl
   have JY:=jx (JY.out rfl)
   have HOK:=jx (fun (h : ∀ i,i<fl.length→rQ n tk (ix fl i)=0)=>JY.out.trans (eF h))
   have aqa:=jx (fun k (h : ∀ i,i<k→rQ n tk (ix fl i)=0) (h2:rQ n tk (ix fl k)≠0) (h3:k<fl.length)=>JY.out.trans (rP (f:=fun i=>rQ n tk (ix fl i)) h h2 h3))
   have Et:=jx (fun w' h=>Et.out w' h jb)
   clear Uk JY hw1
   generalize hN:fl.length=N at *
   go_enter Tryz.func89,Tryz.ntmps89
   go_wp2_with fail
   refine (HCT.out _ (HA.out.on (HW1.out _))).mono ?_;rintro e w1 ⟨rfl,hb1⟩
   obtain ⟨J,HB⟩:=fZ hb1
   have k0:w1.cell? ⟨w.heap.size,0,none⟩=some (.slice aa na cap):=J.cell 0
   have HB:=jx HB
   clear hb1 J
   go_wp2_with fail
   refine (Et.out _ (HA.out.on HB.out)).mono ?_;rintro e w2 ⟨v2,rfl,ho2,hb2⟩
   have hsl:=ho2.sl
   obtain ⟨a2,cap2,rfl,-,-⟩:=hsl.form
   have HSL:=jx hsl
   have HB:=jx (chain HB.out hb2 jp)
   clear ho2 hb2 hsl Et HCT HA k0
   go_wp2_with fail
   go_loopw [21] (fun i wr=>∃ t:Nat,i = .int .i64 t∧t≤N∧Below w2.heap.size w2 wr∧Hid (∀ i,i<t→rQ n tk (ix fl i)=0)) (fun i _=>N - (intOf i).toNat)
   case atStart=>exact ⟨0,rfl,jb,Below.refl _ _,fun i hi=>jb⟩
   case round =>
    obtain ⟨t,rfl,ht,hbr,hst⟩:=hrel
    have Dy:=jx hbr
    have hz:=hbr.size
    have hzB:=HB.out.size
    by_cases hlt:t<N
    ·obtain ⟨b3,JZ,rfl,-,-,-⟩:=HSL.out.get jb
     have e0:=HSL.out.cellAt rfl hbr (i:=t) (j:=0) hlt jb
     have e1:wr.cell? ⟨b3,JZ+t*5+1,none⟩=some (Value.bool (ix fl t).b):=HSL.out.cellAt rfl hbr (i:=t) (j:=1) hlt jb
     have e2:wr.cell? ⟨b3,JZ+t*5+2,none⟩=some (Value.bool (ix fl t).a.n):=HSL.out.cellAt rfl hbr (i:=t) (j:=2) hlt jb
     have e3:wr.cell? ⟨b3,JZ+t*5+3,none⟩=some (Value.string (ix fl t).a.s):=HSL.out.cellAt rfl hbr (i:=t) (j:=3) hlt jb
     have e4:wr.cell? ⟨b3,JZ+t*5+4,none⟩=some (Value.string (ix fl t).a.d):=HSL.out.cellAt rfl hbr (i:=t) (j:=4) hlt jb
     rw [Nat.add_zero] at e0
     have e0' : wr.cell? ⟨b3,JZ+t*5,none⟩=some (Value.int .i64 (ix fl t).k):=e0
     have HH:=jx (fun h2=>aqa.out t hst.out h2 jb)
     have HN:=jx (fun h=>nZ (p:=fun i=>rQ n tk (ix fl i)=0) hst.out h)
     have ht1:(0:Int)≤(t:Int):=jb
     have ht2:(t:Int)<(N:Int):=jb
     have fr:=HFF.out t jb
     clear e0 hst aqa HOK HFF hbr
     generalize ix fl t=P at *
     obtain ⟨x,pb,r⟩:=P
     simp only at e0' e1 e2 e3 e4 HH HN fr
     have HSG:=jx (fun w=>Hz r w ⟨by have:=fr.1;omega,by have:=fr.2;omega⟩)
     have F1:=jx (fun (h:x < -1)=>(HH.out (by rw [Xf h];omega)).trans (Xf h))
     have F2:=jx (fun (h:(n:Int)≤x)=>(HH.out (by rw [Xg h];omega)).trans (Xg h))
     have F3:=jx (fun (h1 : ¬ x < -1) (h2 : ¬ (n:Int)≤x) (h:x = -1) (hb:pb=false)=>(show R=21 by subst hb;exact (HH.out (by rw [aeH h1 h2 h];omega)).trans (aeH h1 h2 h)))
     have F4:=jx (fun (h1 : ¬ x < -1) (h2 : ¬ (n:Int)≤x) (hb:pb=true) (h:sg r.q<0)=>(show R=7 by subst hb;exact (HH.out (by rw [aeI h1 h2 h];omega)).trans (aeI h1 h2 h)))
     have F5:=jx (fun (h1 : ¬ x < -1) (h2 : ¬ (n:Int)≤x) (h3 : ¬ (pb=true∧sg r.q<0)) (h:x≠-1) (h5:tk x=true)=>(HH.out (by rw [aeJ h1 h2 h3 h h5];omega)).trans (aeJ h1 h2 h3 h h5))
     have F6:=jx (fun (h1 : ¬ x < -1) (h2 : ¬ (n:Int)≤x) (h4 : ¬ (x = -1∧pb=false)) (h3 : ¬ (pb=true∧sg r.q<0)) (h5:x = -1∨tk x=false)=>HN.out (amM h1 h2 h4 h3 h5))
     clear HH HN fr
     generalize sg r.q=s at *
     generalize r.n=rn' at *
     generalize r.s=rs' at *
     generalize r.d=rd' at *
     by_cases h1:x < -1
     ·have dh1:decide (x < -1)=true:=decide_eq_true h1
      have d0:decide (x<0)=true:=decide_eq_true jb
      have n1:(x == -1)=false:=by simp;omega
      have HR:=jx (F1.out h1)
      clear F1 F2 F3 F4 F5 F6
      go_wp2
      go_ret
      exact ⟨aW HR.out.symm,chain HB.out (Dy.out.alloc jb _) jp⟩
     ·have dh1:decide (x < -1)=false:=decide_eq_false h1
      by_cases h2:(n:Int)≤x
      ·have dh2:decide ((n:Int)≤x)=true:=decide_eq_true h2
       have d0:decide (x<0)=false:=decide_eq_false jb
       have n1:(x == -1)=false:=by simp;omega
       have HR:=jx (F2.out h2)
       clear F1 F2 F3 F4 F5 F6
       go_wp2
       go_ret
       exact ⟨aW HR.out.symm,chain HB.out (Dy.out.alloc jb _) jp⟩
      ·have dh2:decide ((n:Int)≤x)=false:=decide_eq_false h2
       by_cases h3:x = -1
       ·skip
        subst h3
        cases pb
        ·skip
         have HR:=jx (F3.out h1 h2 rfl rfl)
         clear F1 F2 F3 F4 F5 F6
         go_wp2
         go_ret
         exact ⟨aW HR.out.symm,chain HB.out (Dy.out.alloc jb _) jp⟩
        ·skip
         by_cases hs0:s<0
         ·have anb:decide (s<0)=true:=decide_eq_true hs0
          have HR:=jx (F4.out h1 h2 rfl hs0)
          clear F1 F2 F3 F4 F5 F6
          go_wp2_with fail
          refine (HSG.out _).mono ?_;rintro e w3 ⟨rfl,hb3⟩
          obtain ⟨K2,hbw⟩:=fZ hb3
          have K2:=jx K2
          have Dy:=jx (chain Dy.out hbw jp)
          clear hb3 hbw e0' e1 e2 e3 e4
          go_wp2
          go_ret
          exact ⟨aW HR.out.symm,chain HB.out Dy.out jp⟩
         ·have anb:decide (s<0)=false:=decide_eq_false hs0
          have HX:=jx (F6.out h1 h2 kc (fun h=>hs0 h.2) (.inl rfl))
          clear F1 F2 F3 F4 F5 F6
          go_wp2_with fail
          refine (HSG.out _).mono ?_;rintro e w3 ⟨rfl,hb3⟩
          obtain ⟨K2,hbw⟩:=fZ hb3
          have K2:=jx K2
          have Dy:=jx (chain Dy.out hbw jp)
          clear hb3 hbw e0' e1 e2 e3 e4
          go_wp2
          go_roundw
          case rel=>exact ⟨t+1,by go_num,jb,Dy.out,HX.out⟩
          case measure=>simp [intOf];omega
       ·skip
        have n1:(x == -1)=false:=by simp [h3]
        obtain ⟨i,rfl⟩ : ∃ i:Nat,x=(i:Int):=Int.eq_ofNat_of_zero_le jb
        have hin:i<n:=jb
        have dn1:decide ((i:Int)<0)=false:=decide_eq_false jb
        have dn2:decide ((n:Int)≤(i:Int))=false:=by simp;omega
        have dn3:decide (n≤i)=false:=by simp;omega
        have i7:(0:Int)≤(i:Int):=jb
        have i8:(i:Int)<(n:Int):=jb
        obtain ⟨bt,Ul,rfl,lbt,hrt⟩ : ∃ bt Ul,at' = some ⟨bt,Ul,none⟩∧bt<w.heap.size∧wW w bt Ul 1 n (cT tk):=by
         rcases HTA.out with h0|⟨b,o,h1,h2,h3⟩
         ·omega
         ·exact ⟨b,o,h1,h2,h3⟩
        have HTK:=jx (fun W (h:Below w.heap.size w W)=>(show W.cell? ⟨bt,Ul+i,none⟩=some (Value.bool (tk (i:Int))) from by
         have:=(hrt.below h lbt) i 0 hin jb
         rw [Nat.mul_one,Nat.add_zero] at this;exact this))
        clear hrt
        generalize tk (i:Int)=tkx at *
        cases pb
        ·skip
         cases tkx
         ·skip
          have HX:=jx (F6.out h1 h2 (fun h=>h3 h.1) kc (.inr rfl))
          clear F1 F2 F3 F4 F5 F6
          have q1:(wr.alloc (.cells #[.int .i64 (i:Int),.bool false,.bool rn',.string rs',.string rd'] 93)).cell? ⟨bt,Ul+i,none⟩=some (Value.bool false):=HTK.out _ (chain HB.out (Dy.out.alloc jb _) jp)
          go_wp2
          go_roundw
          case rel=>exact ⟨t+1,by go_num,jb,Dy.out.alloc jb _,HX.out⟩
          case measure=>simp [intOf];omega
         ·skip
          have HR:=jx (F5.out h1 h2 kc h3 rfl)
          clear F1 F2 F3 F4 F5 F6
          have q1:(wr.alloc (.cells #[.int .i64 (i:Int),.bool false,.bool rn',.string rs',.string rd'] 93)).cell? ⟨bt,Ul+i,none⟩=some (Value.bool true):=HTK.out _ (chain HB.out (Dy.out.alloc jb _) jp)
          go_wp2
          go_ret
          exact ⟨aW HR.out.symm,chain HB.out (Dy.out.alloc jb _) jp⟩
        ·skip
         by_cases hs0:s<0
         ·have anb:decide (s<0)=true:=decide_eq_true hs0
          have HR:=jx (F4.out h1 h2 rfl hs0)
          clear F1 F2 F3 F4 F5 F6
          go_wp2_with fail
          refine (HSG.out _).mono ?_;rintro e w3 ⟨rfl,hb3⟩
          obtain ⟨K2,hbw⟩:=fZ hb3
          have K2:=jx K2
          have Dy:=jx (chain Dy.out hbw jp)
          clear hb3 hbw e0' e1 e2 e3 e4
          go_wp2
          go_ret
          exact ⟨aW HR.out.symm,chain HB.out Dy.out jp⟩
         ·have anb:decide (s<0)=false:=decide_eq_false hs0
          cases tkx
          ·skip
           have HX:=jx (F6.out h1 h2 (fun h=>h3 h.1) (fun h=>hs0 h.2) (.inr rfl))
           clear F1 F2 F3 F4 F5 F6
           go_wp2_with fail
           refine (HSG.out _).mono ?_;rintro e w3 ⟨rfl,hb3⟩
           obtain ⟨K2,hbw⟩:=fZ hb3
           have K2:=jx K2
           have Dy:=jx (chain Dy.out hbw jp)
           clear hb3 hbw e0' e1 e2 e3 e4
           have q0:w3.cell? ⟨wr.heap.size,0,none⟩=some (Value.int .i64 (i:Int)):=K2.out.cell 0
           have q1:w3.cell? ⟨bt,Ul+i,none⟩=some (Value.bool false):=HTK.out w3 (chain HB.out Dy.out jp)
           go_wp2
           go_roundw
           case rel=>exact ⟨t+1,by go_num,jb,Dy.out,HX.out⟩
           case measure=>simp [intOf];omega
          ·skip
           have HR:=jx (F5.out h1 h2 (fun h=>hs0 h.2) h3 rfl)
           clear F1 F2 F3 F4 F5 F6
           go_wp2_with fail
           refine (HSG.out _).mono ?_;rintro e w3 ⟨rfl,hb3⟩
           obtain ⟨K2,hbw⟩:=fZ hb3
           have K2:=jx K2
           have Dy:=jx (chain Dy.out hbw jp)
           clear hb3 hbw e0' e1 e2 e3 e4
           have q0:w3.cell? ⟨wr.heap.size,0,none⟩=some (Value.int .i64 (i:Int)):=K2.out.cell 0
           have q1:w3.cell? ⟨bt,Ul+i,none⟩=some (Value.bool true):=HTK.out w3 (chain HB.out Dy.out jp)
           go_wp2
           go_ret
           exact ⟨aW HR.out.symm,chain HB.out Dy.out jp⟩
    ·obtain rfl:t=N:=jb
     have HR:=jx (HOK.out hst.out)
     have hnl:decide ((t:Int)<(t:Int))=false:=by simp
     go_wp2
     go_ret
     exact ⟨aW HR.out.symm,chain HB.out Dy.out jp⟩
  ·have HR:=jx (Uk.out rfl)
   clear Uk JY HLE hw1
   go_enter Tryz.func89,Tryz.ntmps89
   go_wp2_with fail
   refine (HCT.out _ (HA.out.on (HW1.out _))).mono ?_;rintro e w1 ⟨rfl,hb1⟩
   have HB:=jx (fZ hb1).2
   clear hb1
   go_wp2
   go_ret
   exact ⟨aW HR.out.symm,HB.out⟩
end Go.Proofs.Ins
