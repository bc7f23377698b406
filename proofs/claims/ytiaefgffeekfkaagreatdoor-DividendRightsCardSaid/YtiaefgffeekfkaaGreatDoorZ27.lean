/- The walk of waterfall.members. -/
import Derived.Test.YtiaefgffeekfkaaGreatDoorZ26
import Derived.Deep.Upon
import Derived.Lib.AppendZerosOnto
import Derived.Lib.AppendZeros
import Derived.Shelf.Sort.Plain
import Derived.Shelf.Slices.CompactI
import Derived.Shelf.Slices.In.SortNone
import Derived.Lib.OwnBridge
set_option linter.unusedSimpArgs false
set_option linter.unusedVariables false
set_option maxHeartbeats 8000000
namespace Go.Proofs.Ins
open Go.RowKit
def lngT (t:Tier):Bool:=decide (24<t.length)
set_option maxRecDepth 100000 in
theorem checkagr1_any (a:Option Addr) (n cap:Nat) (w:World):Calls Tryz.prog 182 #[.slice a n cap] w fun e w'=>e = .returned (.bool (decide (24<n)))∧Below w.heap.size w w':=by
 by_cases h:24<n
 ·have h1:decide (24<n)=true:=decide_eq_true h
  have h2:decide ((24:Int)<(n:Int))=true:=by simp; omega
  go_enter Tryz.func182,Tryz.ntmps182
  go_wp2
  go_ret
  exact ⟨ret_bool (by rw [h1]),Below.refl _ _⟩
 ·have h1:decide (24<n)=false:=decide_eq_false h
  have h2:decide ((24:Int)<(n:Int))=false:=by simp; omega
  go_enter Tryz.func182,Tryz.ntmps182
  go_wp2
  go_ret
  exact ⟨ret_bool (by rw [h1]),Below.refl _ _⟩
set_option maxRecDepth 100000 in
theorem index_tier (p:Nat→Prop) (v:Value) (a:Agr) (w:World) (hA:RTiers w p v a) (la:a.length≤140737488351232) :
  Calls Tryz.prog 189 #[v,.func (.func 182) #[] #[]] w (RetIx w (anyB (fun i=>lngT (ix a i)) a.length)):=by
 obtain ⟨G,hS,hQ⟩:=hA
 obtain ⟨aa,cap,rfl,-,-⟩:=hS.form
 have HS:=Lib.hid hS
 have HQ:=Lib.hid hQ
 have HE:=Lib.hid (fun h2=>anyB_false (n:=a.length) (p:=fun i=>lngT (ix a i)) h2)
 have HX:=Lib.hid (fun i hi h=>anyB_true (n:=a.length) (i:=i) (p:=fun i=>lngT (ix a i)) hi h)
 clear hS hQ
 generalize hn:a.length=n at *
 go_enter Tryz.func189,Tryz.ntmps189
 go_wp2
 go_loopw [8] (fun i wr=>∃ k:Nat,i = .int .i64 k∧k≤n∧Hid (∀ i,i<k→lngT (ix a i)=false)∧Below w.heap.size w wr) (fun i _=>n - (intOf i).toNat)
 case atStart=>exact ⟨0,rfl,by omega,fun i hi=>by omega,Below.refl _ _⟩
 case round =>
  obtain ⟨k,rfl,hk,hs,hbel⟩:=hrel
  by_cases hlt:k<n
  ·obtain ⟨b,off,rfl,-,-,-⟩:=HS.out.get (by omega)
   have c0:=HS.out.cellAt rfl hbel (i:=k) (j:=0) hlt (by omega)
   obtain ⟨v2,hG,hR⟩:=HQ.out k hlt
   obtain ⟨a2,cap2,rfl,-,-⟩:=hR.plain.form
   rw [hG,Nat.mul_one,Nat.add_zero] at c0
   have c1:wr.cell? ⟨b,off+k,none⟩=some (.slice a2 (ix a k).length cap2):=c0
   have HC:=Lib.hid (fun w=>checkagr1_any a2 (ix a k).length cap2 w)
   have HB:=Lib.hid hbel
   have hsz:=hbel.size
   have HXK:=Lib.hid (HX.out k hlt)
   have HSN:=Lib.hid (fun h=>all_next (p:=fun i=>lngT (ix a i)=false) hs.out h)
   have e1:lngT (ix a k)=decide (24<(ix a k).length):=rfl
   rw [e1] at HXK HSN
   generalize decide (24<(ix a k).length)=sb at *
   have HK:=Lib.hid (show decide (0≤(k:Int))=true by simp)
   have i1:(0:Int)≤(k:Int):=by omega
   have i2:(k:Int)<(n:Int):=by omega
   clear c0 hG hR hbel e1 hs
   go_wp2_with fail
   refine (HC.out _).mono ?_; rintro e w3 ⟨rfl,hb3⟩
   have HB3:=Lib.hid (chain HB.out hb3 (Nat.le_refl _))
   clear hb3
   cases sb
   ·go_wp2
    go_roundw
    case rel=>exact ⟨k+1,by go_num,by omega,HSN.out (by first | rfl | trivial),HB3.out⟩
    case measure=>simp [intOf]; omega
   ·go_wp2
    go_ret
    exact ⟨_,rfl,by rw [HXK.out (by first | rfl | trivial)]; exact HK.out,HB3.out⟩
  ·obtain rfl:k=n:=by omega
   have HF:=Lib.hid (HE.out hs.out)
   clear HX HE
   have hnl:decide ((k:Int)<(k:Int))=false:=by simp
   go_wp2
   go_ret
   exact ⟨_,rfl,by rw [HF.out]; rfl,hbel⟩
set_option maxRecDepth 100000 in
theorem contains_tier (p:Nat→Prop) (v:Value) (a:Agr) (w:World) (hA:RTiers w p v a) (la:a.length≤140737488351232) :
  Calls Tryz.prog 160 #[v,.func (.func 182) #[] #[]] w fun e w'=>e = .returned (.bool (anyB (fun i=>lngT (ix a i)) a.length))∧Below w.heap.size w w':=by
 have HC:=Lib.hid (index_tier p v a w hA la)
 generalize anyB (fun i=>lngT (ix a i)) a.length=T at *
 clear hA
 go_enter Tryz.func160,Tryz.ntmps160
 go_wp2_with fail
 refine HC.out.mono ?_
 rintro e w3 ⟨i,rfl,hi,hb3⟩
 have HI:=Lib.hid hi
 have HB3:=Lib.hid hb3
 clear hi hb3 HC
 go_wp2
 go_ret
 exact ⟨ret_bool HI.out,HB3.out⟩
theorem append_sl {P:Program} {w:World} {base:Nat} {t T:TypeId} {sz bytes:Nat} {v x:Value} {n m:Nat} {F G:Nat→List Value} {p:Nat→Prop}
  (h1:P.underlying t=some (.slice T)) (h2:(P.info? T).map (fun i=>(i.zero.map (fun z=>z.cells.size),i.size,i.bytes))=some (some sz,sz,bytes)) (hsz:0<sz)
  (hown:SOwn w base T sz v n F) (hx:Sl w p sz x m G) (h1c : ∀ i,i<m→∀ u∈G i,u.oneCell' = true) (hn:(n+m)*bytes≤140737488355328) (hn2:n+m≤4294967296) (hbase:base≤w.heap.size) :
  ∃ v' w',(∀ ty,(Builtin.append_ #[t,t] ty #[v,x]).run P w = .ok v' w')∧SOwn w' base T sz v' (n+m) (fun j=>if j<n then F j else G (j - n))∧Below base w w':=by
 obtain ⟨i,z,hi,hz,hzs,hsize,hbb⟩:=info_sz h2
 obtain ⟨a,cap,rfl,hc1,hc2,hr,hGl⟩:=hx
 have hfin : ∀ v' w',w'.ownsRow base T sz v' (n+m) ((List.range n).flatMap F ++ (List.range m).flatMap G)→SOwn w' base T sz v' (n+m) (fun j=>if j<n then F j else G (j - n)):=fun v' w' ho=>by
  refine ⟨?_,fun i hi=>?_⟩
  ·have e:(List.range n).flatMap F ++ (List.range m).flatMap G=(List.range (n+m)).flatMap (fun j=>if j<n then F j else G (j - n)):=by
    rw [List.range_add,List.flatMap_append]
    congr 1
    ·rw [List.flatMap_def,List.flatMap_def]
     congr 1
     exact List.map_congr_left fun j hj=>by rw [if_pos (by simpa using hj)]
    ·rw [List.flatMap_map,List.flatMap_def,List.flatMap_def]
     congr 1
     exact List.map_congr_left fun j hj=>by rw [if_neg (by omega)]; congr 1; omega
   rw [← e]; exact ho
  ·dsimp only
   split
   ·rename_i h; exact hown.2 i h
   ·rename_i h; exact hGl (i - n) (by omega)
 cases a with
 | none =>
  have hm:m=0:=by
   rcases hr with h | ⟨b,off,h,_⟩
   ·exact h
   ·cases h
  subst hm
  obtain ⟨sLen,sCap,bs,rfl,hle⟩ : ∃ sLen sCap bs,v = .slice bs sLen sCap∧sLen≤sCap:=by
   rcases hown.form with ⟨rfl,rfl⟩ | ⟨g,cap',rfl,_,hn',_⟩
   ·exact ⟨0,0,none,rfl,Nat.le_refl _⟩
   ·exact ⟨_,_,_,rfl,hn'⟩
  refine ⟨_,w,fun ty=>run_append_nothing w t t ty T i h1 hi bs sLen sCap hle (.slice none 0 cap) ?_,?_,Below.refl _ _⟩
  ·exact { kind:=.inl ⟨T,h1⟩,len:=by simp [lenOf,go_sem],newsLen:=by simp,cells:=run_firstCells_none w _ _ _ _,cellsD:=run_firstCells_none w.drew _ _ _ _,one:=by simp }
  ·exact hown.congr fun i hi=>by rw [if_pos hi]
 | some ad =>
  have hnews : ∀ j u,((List.range m).flatMap G)[j]?=some u→w.cell? (ad.add j)=some u:=fun j u hj=>by
   rcases hr with h | ⟨b,off,h,-,-,hrd⟩
   ·subst h; simp at hj
   ·simp only [Option.some.injEq] at h
    subst h
    have hjl:j<m*sz:=by
     have h9:=(List.getElem?_eq_some_iff.mp hj).1
     have hlen:((List.range m).flatMap G).length=m*sz:=by
      clear hj h9 hn hn2 hrd h1c hc1 hfin
      induction m with
      | zero=>simp
      | succ m ih =>
       rw [List.range_succ,List.flatMap_append,List.length_append,ih (fun i hi=>hGl i (by omega))]
       simp [hGl m (by omega),Nat.succ_mul]
     omega
    have hq:=hrd (j/sz) (j%sz) (Nat.div_lt_of_lt_mul (by rw [Nat.mul_comm]; exact hjl)) (Nat.mod_lt _ hsz)
    have hfl:=flatMap_get m hGl (j/sz) (j%sz) (Nat.div_lt_of_lt_mul (by rw [Nat.mul_comm]; exact hjl)) (Nat.mod_lt _ hsz)
    have e:j/sz*sz+j%sz=j:=by rw [Nat.mul_comm]; exact Nat.div_add_mod j sz
    rw [e] at hfl
    rw [← hfl,hj] at hq
    have ea:(⟨b,off,none⟩:Addr).add j=⟨b,off+j/sz*sz+j%sz,none⟩:=by
     unfold Addr.add; split
     ·rename_i h0; subst h0; simp
     ·rw [Nat.add_assoc,e]
    rw [ea]; exact hq
  have hlen:((List.range m).flatMap G).length=m*sz:=by
   clear hnews hn hn2 h1c hc1 hr hfin
   induction m with
   | zero=>simp
   | succ m ih =>
    rw [List.range_succ,List.flatMap_append,List.length_append,ih (fun i hi=>hGl i (by omega))]
    simp [hGl m (by omega),Nat.succ_mul]
  have hone : ∀ u∈(List.range m).flatMap G,u.oneCell' = true:=fun u hu=>by
   obtain ⟨i,hi,hu⟩:=List.mem_flatMap.mp hu
   exact h1c i (by simpa using hi) u hu
  obtain ⟨v',w',hr9,ho9,hg9,-⟩:=run_append_own (P:=P) w base t 0 T i z sz bytes h1 hi hz hsize hbb hzs hsz v n _ hown.1 ad m cap _ hlen hnews hone (by unfold maxLen; omega) hn hbase
  exact ⟨v',w',fun ty=>hr9,hfin v' w' ho9,below_grownS hown.1 hg9 hbase⟩
theorem ix_app {α:Type} [Inhabited α] (l1 l2:List α) (j:Nat):ix (l1 ++ l2) j=if j<l1.length then ix l1 j else ix l2 (j - l1.length):=by
 unfold ix
 by_cases h:j<l1.length
 ·rw [if_pos h]; simp [List.getD,List.getElem?_append_left h]
 ·rw [if_neg h]; simp [List.getD,List.getElem?_append_right (Nat.le_of_not_lt h)]
theorem partInfo:(Tryz.prog.info? 84).map (fun i=>(i.zero.map (fun z=>z.cells.size),i.size,i.bytes))=some (some 5,5,56):=by kernel_rfl
theorem partRest : ∃ i z,Tryz.prog.info? 84=some i∧i.zero=some z∧z.cells.size=5∧i.size=5∧i.bytes=56:=info_sz partInfo
set_option maxRecDepth 100000 in
theorem grow_part (n:Nat) (w:World) (hn:n≤1000000) :
  Calls Tryz.prog 220 #[.slice none 0 0,.int .i64 (n:Int)] w (RetO w 84 0 5 fun _=>[]):=by
 by_cases h0:n=0
 ·subst h0
  go_enter Tryz.func220,Tryz.ntmps220
  go_wp2
  go_ret
  exact ⟨_,rfl,SOwn.nil _ _ _ _ _,Below.refl _ _⟩
 ·obtain ⟨i,z,hi,hz,hzs,hsize,hbb⟩:=partRest
  have hrz : ∀ ty,(Builtin.append_ #[85,3] ty #[.slice none 0 0,.int .i64 (n:Int)]).run Tryz.prog w =
    .ok (.slice (some ⟨w.heap.size,0,none⟩) (0+n) (grownCap w (0+n) 0 84)) (w.drew.alloc (.cells ((#[]:Array Value) ++ Builtin.zeroCells z.cells n ++ Builtin.zeroCells z.cells (grownCap w (0+n) 0 84 - (0+n))) 84)):=fun ty =>
   Lib.run_append_grow_zeros w 85 3 ty 84 i z .i64 .i64 Tryz.underlying85 Tryz.underlying3 hi hz none 0 0 [] (run_firstCells_none w.drew _ _ _ _) n (by omega) (by omega) (by omega) (by omega)
    (by rw [hbb]; omega) (by rw [hbb,Nat.zero_add,nextslicecap_zero (by omega)]; omega)
  have hGn:0+n≤grownCap w (0+n) 0 84:=grownCap_ge w _ _ _
  have hGm:=grownCap_le_maxLen w (0+n) 0 84 (by unfold maxLen; omega)
  have hown:SOwn (w.drew.alloc (.cells ((#[]:Array Value) ++ Builtin.zeroCells z.cells n ++ Builtin.zeroCells z.cells (grownCap w (0+n) 0 84 - (0+n))) 84)) w.heap.size 84 5 (.slice (some ⟨w.heap.size,0,none⟩) 0 (grownCap w (0+n) 0 84)) 0 (fun _=>[]):=by
   refine ⟨⟨by simp,.inr ⟨w.heap.size,_,_,rfl,Nat.le_refl _,heap_alloc_new w.drew _,by omega,hGm,?_,by simp⟩⟩,fun i hi=>by omega⟩
   simp only [Nat.zero_add] at hGn ⊢
   simp [size_zeroCells,hzs]
   rw [← Nat.add_mul]; congr 1; omega
  have HO:=Lib.hid hown
  have hz5:(w.drew.alloc (.cells ((#[]:Array Value) ++ Builtin.zeroCells z.cells n ++ Builtin.zeroCells z.cells (grownCap w (0+n) 0 84 - (0+n))) 84)).heap.size=w.heap.size+1:=by simp
  have HB:=Lib.hid (show Below w.heap.size w (w.drew.alloc (.cells ((#[]:Array Value) ++ Builtin.zeroCells z.cells n ++ Builtin.zeroCells z.cells (grownCap w (0+n) 0 84 - (0+n))) 84)) from (Below.refl _ _).drew.alloc (by simp) _)
  clear hown hz5
  generalize grownCap w (0+n) 0 84=G at *
  generalize hW:w.drew.alloc (.cells ((#[]:Array Value) ++ Builtin.zeroCells z.cells n ++ Builtin.zeroCells z.cells (G - (0+n))) 84)=W at *
  have h1:(0:Int)<(n:Int):=by omega
  unfold maxLen at hGm
  clear hW hi hz hzs hsize hbb
  go_enter Tryz.func220,Tryz.ntmps220
  go_wp2_with (at_builtin; refine Lib.wpList_append_run _ rfl _ _ _ _ rfl _ _ rfl rfl _ _ (hrz _) ?_)
  go_ret
  exact ⟨_,rfl,HO.out,HB.out⟩
def tot (a:Agr) (k:Nat):Nat:=(a.take k).flatten.length
theorem tot_zero (a:Agr):tot a 0=0:=by simp [tot]
theorem tot_succ {a:Agr} {k:Nat} (h:k<a.length):tot a (k+1)=tot a k+(ix a k).length:=by
 unfold tot; rw [take_succ_ix h]; simp
theorem tot_le {a:Agr} {k:Nat} : tot a k≤a.flatten.length:=by
 unfold tot
 conv=>rhs; rw [← List.take_append_drop k a]
 rw [List.flatten_append,List.length_append]; omega
theorem tot_all (a:Agr):tot a a.length=a.flatten.length:=by unfold tot; rw [List.take_length]
def prt (a:Agr) (k j:Nat):List Value:=(ix (a.take k).flatten j).c
theorem prt_succ {a:Agr} {k:Nat} (h:k<a.length) (j:Nat):(if j<tot a k then prt a k j else (ix (ix a k) (j - tot a k)).c)=prt a (k+1) j:=by
 unfold prt tot
 rw [take_succ_ix h,List.flatten_append,List.flatten_singleton,ix_app]
 split <;> rfl
theorem prt_all (a:Agr) (j:Nat):prt a a.length j=(ix a.flatten j).c:=by unfold prt; rw [List.take_length]
theorem prt_one (x:Prt) : ∀ u∈x.c,u.oneCell' = true:=by unfold Prt.c; simp [Value.oneCell']
set_option maxRecDepth 100000 in
theorem concat_part (p:Nat→Prop) (v:Value) (a:Agr) (w:World) (hA:RTiers w p v a) (la:a.length≤140737488351232) (lf:a.flatten.length≤1000000) :
  Calls Tryz.prog 183 #[v] w (RetO w 84 a.flatten.length 5 fun i=>(ix a.flatten i).c):=by
 obtain ⟨G,hS,hQ⟩:=hA
 obtain ⟨aa,cap,rfl,-,-⟩:=hS.form
 have HS:=Lib.hid hS
 have HQ:=Lib.hid hQ
 have HTS:=Lib.hid (fun k h=>tot_succ (a:=a) (k:=k) h)
 have HTL:=Lib.hid (fun k=>tot_le (a:=a) (k:=k))
 have HT0:=Lib.hid (tot_zero a)
 have HPS:=Lib.hid (fun k h=>prt_succ (a:=a) (k:=k) h)
 have HTA:=Lib.hid (tot_all a)
 have HPA:=Lib.hid (prt_all a)
 clear hS hQ
 generalize hfl:a.flatten.length=N at *
 generalize hff:(fun i=>(ix a.flatten i).c)=FF at *
 have HPA:=Lib.hid (show ∀ j,prt a a.length j=FF j from fun j=>by rw [HPA.out,← hff])
 clear hff hfl
 generalize tot a=TT at *
 generalize hpp:prt a=PP at *
 clear hpp
 generalize hn:a.length=n at *
 go_enter Tryz.func183,Tryz.ntmps183
 go_wp2_with fail
 go_loopw [3,11] (fun s i wr=>∃ k:Nat,i = .int .i64 k∧k≤n∧s = .int .i64 (TT k:Int)∧w=wr) (fun _ i _=>n - (intOf i).toNat)
 case atStart=>exact ⟨0,rfl,by omega,by rw [HT0.out]; rfl,rfl⟩
 case round =>
  obtain ⟨k,rfl,hk,rfl,rfl⟩:=hrel
  by_cases hlt:k<n
  ·obtain ⟨b,off,rfl,-,-,-⟩:=HS.out.get (by omega)
   have c0:=HS.out.cellAt rfl (Below.refl _ _) (i:=k) (j:=0) hlt (by omega)
   obtain ⟨v2,hG,hR⟩:=HQ.out k hlt
   obtain ⟨a2,cap2,rfl,-,-⟩:=hR.plain.form
   rw [hG,Nat.mul_one,Nat.add_zero] at c0
   have c1:w.cell? ⟨b,off+k,none⟩=some (Value.slice a2 (ix a k).length cap2):=c0
   have e1:=HTS.out k (by omega)
   have e2:=HTL.out (k+1)
   have hb9:TT k+(ix a k).length≤1000000:=by omega
   have HE1:=Lib.hid e1
   have i1:(0:Int)≤(k:Int):=by omega
   have i2:(k:Int)<(n:Int):=by omega
   clear c0 hG hR HTS HTL HPS HTA HPA
   generalize (ix a k).length=m at *
   clear e1 e2
   generalize ht1:TT (k+1)=t1 at *
   have HT1:=Lib.hid ht1
   clear ht1
   generalize TT k=t0 at *
   have e3:IntKind.i64.wrap ((t0:Int)+(m:Int))=(t0:Int)+(m:Int):=IntWalk.i64_in _ (by omega)
   have e6:decide ((t0:Int)+(m:Int)<0)=false:=decide_eq_false (by omega)
   go_wp2
   go_roundw
   case rel=>exact ⟨k+1,by go_num,by omega,by rw [HT1.out,HE1.out]; simp,by simp⟩
   case measure=>simp [intOf]; omega
  ·obtain rfl:k=n:=by omega
   have hnl:decide ((k:Int)<(k:Int))=false:=by simp
   have hle:=HTL.out k
   have HGR:=Lib.hid (grow_part (TT k) w (by omega))
   go_wp2_with fail
   refine HGR.out.mono ?_
   rintro e w1 ⟨v1,rfl,ho1,hb1⟩
   have HO1:=Lib.hid (ho1.congr (G:=PP 0) fun i hi=>by omega)
   have HB1:=Lib.hid hb1
   clear ho1 hb1 HGR
   go_wp2_with fail
   go_loopw [6,27] (fun v i W=>∃ q:Nat,i = .int .i64 q∧q≤k∧SOwn W w.heap.size 84 5 v (TT q) (PP q)∧Below w.heap.size w W) (fun _ i _=>k - (intOf i).toNat)
   case atStart=>exact ⟨0,rfl,by omega,by rw [HT0.out]; exact HO1.out,HB1.out⟩
   case round =>
    obtain ⟨q,rfl,hq,hown,hbel⟩:=hrel
    have HB:=Lib.hid hbel
    have hsz:=hbel.size
    by_cases hlt:q<k
    ·obtain ⟨b,off,rfl,-,-,-⟩:=HS.out.get (by omega)
     have c0:=HS.out.cellAt rfl HB.out (i:=q) (j:=0) hlt (by omega)
     obtain ⟨v2,hG,hR⟩:=HQ.out q hlt
     rw [hG,Nat.mul_one,Nat.add_zero] at c0
     have e1:=HTS.out q (by omega)
     have e2:=HTL.out (q+1)
     have hap:=append_sl (t:=85) Tryz.underlying85 partInfo (by omega) hown (hR.on hbel).plain (fun i hi u hu=>prt_one _ u hu) (by omega) (by omega) hsz
     obtain ⟨a2,cap2,rfl,-,-⟩:=hR.plain.form
     obtain ⟨v9,w9,hr9,ho9,hb9⟩:=hap
     have c1:wr.cell? ⟨b,off+q,none⟩=some (Value.slice a2 (ix a q).length cap2):=c0
     have HO9:=Lib.hid (show SOwn w9 w.heap.size 84 5 v9 (TT (q+1)) (PP (q+1)) from by rw [e1]; exact ho9.congr fun i hi=>HPS.out q (by omega) i)
     have HB9:=Lib.hid (HB.out.trans hb9)
     have i1:(0:Int)≤(q:Int):=by omega
     have i2:(q:Int)<(k:Int):=by omega
     clear c0 hG hR ho9 hb9 hown hbel HTS HTL HPS HTA HPA HT0
     go_wp2_with (at_builtin; refine Lib.wpList_append_run _ rfl _ _ _ _ rfl _ _ rfl rfl _ _ (hr9 _) ?_)
     go_roundw
     case rel=>exact ⟨q+1,by go_num,by omega,HO9.out,HB9.out⟩
     case measure=>simp [intOf]; omega
    ·obtain rfl:q=k:=by omega
     have hnl:decide ((q:Int)<(q:Int))=false:=by simp
     have HR:=Lib.hid (show SOwn wr w.heap.size 84 5 u6 N FF from by rw [← HTA.out]; exact hown.congr fun i _=>HPA.out i)
     go_wp2
     go_ret
     exact ⟨_,rfl,HR.out,HB.out⟩
end Go.Proofs.Ins
namespace Go.Proofs
open Go.Shelf
def Tryz.lays189_ren:Go.Shelf.Ren:=⟨fun | 189=>184 | 125=>222 | 257=>221 | 128=>269 | 129=>270 | 294=>260 | 295=>261 | 296=>262 | 297=>263 | 298=>264 | 299=>265 | 216=>266 | 300=>267 | 301=>268 | 328=>291 | 329=>292 | 330=>293 | 331=>294 | 332=>295 | 215=>296 | 343=>308 | n=>n,fun | 28=>188 | 3=>3 | 46=>105 | 0=>0 | 51=>179 | 53=>168 | 4=>4 | 183=>317 | 182=>316 | 131=>322 | 5=>5 | 9=>9 | 218=>347 | 222=>351 | 228=>362 | 229=>363 | n=>n,fun | n=>n⟩
theorem Tryz.lays189:Go.Proofs.Lays.n189 Tryz.prog Tryz.lays189_ren:={
 mixed:=by kernel_rfl
 f125:=Tryz.func222.trans (congrArg some (by kernel_rfl))
 f128:=Tryz.func269.trans (congrArg some (by kernel_rfl))
 f129:=Tryz.func270.trans (congrArg some (by kernel_rfl))
 f189:=Tryz.func184.trans (congrArg some (by kernel_rfl))
 f215:=Tryz.func296.trans (congrArg some (by kernel_rfl))
 f216:=Tryz.func266.trans (congrArg some (by kernel_rfl))
 f257:=Tryz.func221.trans (congrArg some (by kernel_rfl))
 f294:=Tryz.func260.trans (congrArg some (by kernel_rfl))
 f295:=Tryz.func261.trans (congrArg some (by kernel_rfl))
 f296:=Tryz.func262.trans (congrArg some (by kernel_rfl))
 f297:=Tryz.func263.trans (congrArg some (by kernel_rfl))
 f298:=Tryz.func264.trans (congrArg some (by kernel_rfl))
 f299:=Tryz.func265.trans (congrArg some (by kernel_rfl))
 f300:=Tryz.func267.trans (congrArg some (by kernel_rfl))
 f301:=Tryz.func268.trans (congrArg some (by kernel_rfl))
 f328:=Tryz.func291.trans (congrArg some (by kernel_rfl))
 f329:=Tryz.func292.trans (congrArg some (by kernel_rfl))
 f330:=Tryz.func293.trans (congrArg some (by kernel_rfl))
 f331:=Tryz.func294.trans (congrArg some (by kernel_rfl))
 f332:=Tryz.func295.trans (congrArg some (by kernel_rfl))
 f343:=Tryz.func308.trans (congrArg some (by kernel_rfl))
 t0:=Tryz.underlying0
 a0:=Tryz.isAgg0
 z0:=Tryz.sizeOf0
 v0:=Tryz.zeroValue0
 t3:=Tryz.underlying3
 a3:=Tryz.isAgg3
 z3:=Tryz.sizeOf3
 v3:=Tryz.zeroValue3
 t4:=Tryz.underlying4
 a4:=Tryz.isAgg4
 z4:=Tryz.sizeOf4
 v4:=Tryz.zeroValue4
 t5:=Tryz.underlying5
 a5:=Tryz.isAgg5
 z5:=Tryz.sizeOf5
 v5:=Tryz.zeroValue5
 t9:=Tryz.underlying9
 a9:=Tryz.isAgg9
 z9:=Tryz.sizeOf9
 v9:=Tryz.zeroValue9
 t28:=Tryz.underlying188
 a28:=Tryz.isAgg188
 z28:=Tryz.sizeOf188
 v28:=Tryz.zeroValue188
 t46:=Tryz.underlying105
 a46:=Tryz.isAgg105
 z46:=Tryz.sizeOf105
 v46:=Tryz.zeroValue105
 t51:=Tryz.underlying179
 a51:=Tryz.isAgg179
 z51:=Tryz.sizeOf179
 v51:=Tryz.zeroValue179
 t53:=Tryz.underlying168
 a53:=Tryz.isAgg168
 z53:=Tryz.sizeOf168
 v53:=Tryz.zeroValue168
 t131:=Tryz.underlying322
 a131:=Tryz.isAgg322
 z131:=Tryz.sizeOf322
 v131:=Tryz.zeroValue322
 t182:=Tryz.underlying316
 a182:=Tryz.isAgg316
 z182:=Tryz.sizeOf316
 v182:=Tryz.zeroValue316
 t183:=Tryz.underlying317
 a183:=Tryz.isAgg317
 z183:=Tryz.sizeOf317
 v183:=Tryz.zeroValue317
 t218:=Tryz.underlying347
 a218:=Tryz.isAgg347
 z218:=Tryz.sizeOf347
 v218:=Tryz.zeroValue347
 t222:=Tryz.underlying351
 a222:=Tryz.isAgg351
 z222:=Tryz.sizeOf351
 v222:=Tryz.zeroValue351
 t228:=Tryz.underlying362
 a228:=Tryz.isAgg362
 z228:=Tryz.sizeOf362
 v228:=Tryz.zeroValue362
 t229:=Tryz.underlying363
 a229:=Tryz.isAgg363
 z229:=Tryz.sizeOf363
 v229:=Tryz.zeroValue363 }
open Go.Sort Go.RowKit in
theorem Tryz.slices_Sort_int (blk off cap:Nat) (zs:List Int) (w:World) (hH:Holds (Value.int .i64) w blk off zs.toArray) (hblk:blk<w.heap.size) (hsz:zs.length<4611686018427387904) :
 Calls Tryz.prog 184 #[.slice (some ⟨blk,off,none⟩) zs.length cap] w fun e w' =>
 e = .returned (.tuple #[])∧∃ n os,w' = grow (putRow (Value.int .i64) (Sort.ahead w n) blk off (zs.mergeSort fun x y=>decide (x≤y)).toArray) os:=Any.slices_Sort_int Tryz.lays189 blk off cap zs w hH hblk hsz
open Go.RowKit Go.Sort in
theorem Tryz.slices_Sort_int_none (p:Option Addr) (cap:Nat) (w:World) :
 Calls Tryz.prog 184 #[.slice p 0 cap] w fun e w'=>e = .returned (.tuple #[])∧w' = w:=Any.slices_Sort_int_none Tryz.lays189 p cap w
def Tryz.laysNm220_ren:Go.Shelf.Ren:=⟨fun | 20=>185 | n=>n,fun | 22=>188 | 3=>3 | 4=>4 | 0=>0 | n=>n,fun | n=>n⟩
theorem Tryz.laysNm220:Go.Proofs.Lays2.n20 Tryz.prog Tryz.laysNm220_ren:={
 mixed:=by kernel_rfl
 f20:=Tryz.func185.trans (congrArg some (by kernel_rfl))
 t0:=Tryz.underlying0
 a0:=Tryz.isAgg0
 z0:=Tryz.sizeOf0
 v0:=Tryz.zeroValue0
 t3:=Tryz.underlying3
 a3:=Tryz.isAgg3
 z3:=Tryz.sizeOf3
 v3:=Tryz.zeroValue3
 t4:=Tryz.underlying4
 a4:=Tryz.isAgg4
 z4:=Tryz.sizeOf4
 v4:=Tryz.zeroValue4
 t22:=Tryz.underlying188
 a22:=Tryz.isAgg188
 z22:=Tryz.sizeOf188
 v22:=Tryz.zeroValue188
 i3:=by kernel_rfl }
open Go.RowKit Go.Lib Go.Sort in
theorem Tryz.slices_Compact_int (blk off cap:Nat) (zs:List Int) (w:World) (hH:Holds (Value.int .i64) w blk off zs.toArray) (hsz:zs.length≤9223372036854775807) (hcap:zs.length≤cap) :
 Calls Tryz.prog 185 #[.slice (some ⟨blk,off,none⟩) zs.length cap] w fun e w'=>e = .returned (.slice (some ⟨blk,off,none⟩) (Lib.compact zs).length cap)∧∃ q,w' = putRow (Value.int .i64) (Sort.ahead w q) blk off (Lib.compact zs ++ List.replicate (zs.length - (Lib.compact zs).length) 0).toArray:=Any.slices_Compact_int Tryz.laysNm220 blk off cap zs w hH hsz hcap
open Go.RowKit Go.Lib Go.Sort in
theorem Tryz.slices_Compact_int_empty (a:Option Addr) (cap:Nat) (w:World) :
 Calls Tryz.prog 185 #[.slice a 0 cap] w fun e w'=>e = .returned (.slice a 0 cap)∧w' = w:=Any.slices_Compact_int_empty Tryz.laysNm220 a cap w
end Go.Proofs
namespace Go.Proofs.Ins
open Go.RowKit

def cI (l:List Nat) (j:Nat):List Value:=[.int .i64 ((l.getD j 0:Nat):Int)]
theorem SOwn.mono {w:World} {base base' : Nat} {T:TypeId} {sz:Nat} {v:Value} {n:Nat} {F:Nat→List Value} (h:SOwn w base T sz v n F) (hb:base'≤base):SOwn w base' T sz v n F:=by
 obtain ⟨⟨h1,h2⟩,h3⟩:=h
 refine ⟨⟨h1,?_⟩,h3⟩
 rcases h2 with h2 | ⟨g,cap,cur,hv,hg,r⟩
 ·exact .inl h2
 ·exact .inr ⟨g,cap,cur,hv,Nat.le_trans hb hg,r⟩
def RetW (w:World) (T:TypeId) (l:List Nat) (x:Int) (e:Ending) (w' : World):Prop :=
 ∃ v,e = .returned (.tuple #[v,.int .i64 x])∧SOwn w' w.heap.size T 1 v l.length (cI l)∧Below w.heap.size w w'
theorem RetW.nil {w w' : World} {T:TypeId} {x:Int} (h:Below w.heap.size w w'):RetW w T [] x (.returned (.tuple #[.slice none 0 0,.int .i64 x])) w' :=
 ⟨_,rfl,SOwn.nil _ _ _ _ _,h⟩
theorem intInfo:(Tryz.prog.info? 3).map (fun i=>(i.zero.map (fun z=>z.cells.size),i.size,i.bytes))=some (some 1,1,8):=by kernel_rfl
theorem mem_compact {zs:List Int} {x:Int} : x∈Lib.compact zs↔x∈zs:=by
 unfold Lib.compact Lib.compactUpTo
 rw [List.mem_map]
 constructor
 ·rintro ⟨j,hj,rfl⟩
  rw [List.mem_filter] at hj
  have:j<zs.length:=by simpa using hj.1
  simp [getElem!_pos,this]
 ·intro hx
  obtain ⟨i,hi,rfl⟩:=List.getElem_of_mem hx
  have : ∀ j,j<zs.length→∃ k,k≤j∧Lib.keeps zs.toArray k=true∧zs.toArray[k]! = zs.toArray[j]!:=by
   intro j
   induction j with
   | zero=>intro _; exact ⟨0,Nat.le_refl _,by simp [Lib.keeps],rfl⟩
   | succ j ih =>
    intro hj
    by_cases e:zs.toArray[j+1]! = zs.toArray[j]!
    ·obtain ⟨k,h1,h2,h3⟩:=ih (by omega)
     exact ⟨k,by omega,h2,by rw [h3,e]⟩
    ·exact ⟨j+1,Nat.le_refl _,by simp only [Lib.keeps]; exact decide_eq_true (.inr (by simpa using e)),rfl⟩
  obtain ⟨k,h1,h2,h3⟩:=this i hi
  refine ⟨k,List.mem_filter.mpr ⟨by simp; omega,h2⟩,?_⟩
  rw [h3]; simp [getElem!_pos,hi]
theorem flat_len {F:Nat→List Value} {sz:Nat} : ∀ (n:Nat),(∀ i,i<n→(F i).length=sz)→((List.range n).flatMap F).length=n*sz
 | 0,_=>by simp
 | n+1,h=>by
  rw [List.range_succ,List.flatMap_append,List.length_append,flat_len n (fun i hi=>h i (by omega))]
  simp [h n (by omega),Nat.succ_mul]
def cJ (l:List Int) (j:Nat):List Value:=[.int .i64 (l.getD j 0)]
theorem cJ_flat (l:List Int):(List.range l.length).flatMap (cJ l)=l.map (Value.int .i64):=by
 apply List.ext_getElem?
 intro j
 by_cases h:j<l.length
 ·have:=flatMap_get (sz:=1) (F:=cJ l) l.length (fun i _=>rfl) j 0 h (by omega)
  rw [Nat.mul_one,Nat.add_zero] at this
  rw [this]; simp [cJ,h]
 ·rw [List.getElem?_eq_none,List.getElem?_eq_none]
  ·simpa using h
  ·rw [flat_len (sz:=1) l.length (fun i _=>rfl)]; omega
theorem cJ_snoc (l:List Int) (x:Int) (j:Nat) (hj:j<l.length+1):(if j<l.length then cJ l j else [.int .i64 x])=cJ (l ++ [x]) j:=by
 unfold cJ
 by_cases h:j<l.length
 ·rw [if_pos h]; simp [List.getElem?_append_left h]
 ·obtain rfl:j=l.length:=by omega
  rw [if_neg h]; simp
theorem sown_row {w:World} {base:Nat} {T:TypeId} {v:Value} {l:List Int} : SOwn w base T 1 v l.length (cJ l)↔w.ownsRow base T 1 v l.length (l.map (Value.int .i64)):=by
 unfold SOwn
 rw [cJ_flat]
 exact ⟨fun h=>h.1,fun h=>⟨h,fun _ _=>rfl⟩⟩
theorem below_grow {B:Nat} {w0 w:World} {os:Array Obj} (h:Below B w0 w) (hB:B≤w.heap.size):Below B w0 (Sort.grow w os) :=
 ⟨h.os,h.tape,h.output,by have:=h.size; simp [Sort.grow]; omega,fun k hk=>by rw [← h.block k hk]; exact Sort.heap_grow_old w os (by omega)⟩
theorem ownsRow_grow {w:World} {base:Nat} {T:TypeId} {v:Value} {n:Nat} {xs:List Value} {os:Array Obj} (h:w.ownsRow base T 1 v n xs):(Sort.grow w os).ownsRow base T 1 v n xs:=by
 obtain ⟨h1,h2⟩:=h
 refine ⟨h1,?_⟩
 rcases h2 with h2 | ⟨g,cap,cur,hv,hb,hg,r⟩
 ·exact .inl h2
 ·exact .inr ⟨g,cap,cur,hv,hb,by rw [Sort.heap_grow_old w os (Array.getElem?_eq_some_iff.mp hg).1]; exact hg,r⟩
theorem sort_own (w:World) (base:Nat) (v:Value) (l:List Int) (h:SOwn w base 3 1 v l.length (cJ l)) (hb:base≤w.heap.size) (hl:l.length<4611686018427387904) :
  Calls Tryz.prog 184 #[v] w fun e w'=>e = .returned (.tuple #[])∧∃ l' : List Int,l'.length=l.length∧(∀ x,x∈l'↔x∈l)∧SOwn w' base 3 1 v l'.length (cJ l')∧Below base w w':=by
 by_cases hv:v = .slice none 0 0
 ·subst hv
  refine (Tryz.slices_Sort_int_none none 0 w).mono fun e w' ⟨he,hw⟩=>⟨he,l,rfl,fun _=>Iff.rfl,by rw [hw]; exact h,by rw [hw]; exact Below.refl _ _⟩
 ·have hr:=sown_row.mp h
  obtain ⟨g,cap,rfl,h1,h2,h3,h4,h5,h6⟩:=Lib.holds_of_ownsRow hr hv
  refine (Tryz.slices_Sort_int g 0 cap l w h6 h2 hl).mono ?_
  rintro e w' ⟨he,n,os,rfl⟩
  refine ⟨he,l.mergeSort fun x y=>decide (x≤y),by rw [List.length_mergeSort],fun x=>List.mem_mergeSort,sown_row.mpr ?_,below_grow (Lib.below_putRow (Below.refl base w) h1) (by simpa [Sort.putRow,Sort.mapBlock,Sort.ahead] using hb)⟩
  refine ownsRow_grow ?_
  have:=Lib.ownsRow_putRow (q:=n) (k:=l.length) (ys:=l.mergeSort fun x y=>decide (x≤y)) hr (by rw [List.length_mergeSort]) (Nat.le_refl _)
  rw [List.take_of_length_le (by rw [List.length_mergeSort]; omega)] at this
  rw [List.length_mergeSort]; exact this
theorem compact_own (w:World) (base:Nat) (v:Value) (l:List Int) (h:SOwn w base 3 1 v l.length (cJ l)) (hl:l.length≤9223372036854775807) :
  Calls Tryz.prog 185 #[v] w fun e w'=>∃ v' l',e = .returned v'∧l'.length≤l.length∧(∀ x,x∈l'↔x∈l)∧SOwn w' base 3 1 v' l'.length (cJ l')∧Below base w w':=by
 by_cases hv:v = .slice none 0 0
 ·subst hv
  refine (Tryz.slices_Compact_int_empty none 0 w).mono fun e w' ⟨he,hw⟩=>⟨_,l,he,Nat.le_refl _,fun _=>Iff.rfl,by rw [hw]; exact h,by rw [hw]; exact Below.refl _ _⟩
 ·have hr:=sown_row.mp h
  obtain ⟨g,cap,rfl,h1,h2,h3,h4,h5,h6⟩:=Lib.holds_of_ownsRow hr hv
  refine (Tryz.slices_Compact_int g 0 cap l w h6 hl h3).mono ?_
  rintro e w' ⟨he,q,rfl⟩
  have hle:=Lib.compact_length_le l
  refine ⟨_,Lib.compact l,he,hle,fun x=>mem_compact,sown_row.mpr ?_,Lib.below_putRow (Below.refl base w) h1⟩
  have:=Lib.ownsRow_putRow (q:=q) (k:=(Lib.compact l).length) (ys:=Lib.compact l ++ List.replicate (l.length - (Lib.compact l).length) 0) hr (by simp; omega) hle
  rw [List.take_left] at this
  exact this
def mks (l:List Prt) (k:Nat):List Int:=((l.take k).map fun x=>x.k).filter fun x=>x != -1
theorem mks_zero (l:List Prt):mks l 0=[]:=by simp [mks]
theorem mks_yes {l:List Prt} {k:Nat} (h:k<l.length) (h2:(ix l k).k≠-1):mks l (k+1)=mks l k ++ [(ix l k).k]:=by
 unfold mks; rw [take_succ_ix h]; simp [h2]
theorem mks_no {l:List Prt} {k:Nat} (h:k<l.length) (h2:(ix l k).k = -1):mks l (k+1)=mks l k:=by
 unfold mks; rw [take_succ_ix h]; simp [h2]
theorem mks_len (l:List Prt) (k:Nat):(mks l k).length≤k:=by
 unfold mks
 refine Nat.le_trans (List.length_filter_le _ _) ?_
 simp; omega
theorem mks_all {a:Agr} {c:Int} : c∈mks a.flatten a.flatten.length↔c≠-1∧memA a c=true:=by
 unfold mks memA memT
 rw [List.take_length,List.mem_filter,List.mem_map,List.any_eq_true]
 constructor
 ·rintro ⟨⟨x,hx,rfl⟩,h⟩
  obtain ⟨t,ht,hx⟩:=List.mem_flatten.mp hx
  exact ⟨by simpa using h,t,ht,List.any_eq_true.mpr ⟨x,hx,by simp⟩⟩
 ·rintro ⟨h,t,ht,h2⟩
  obtain ⟨x,hx,e⟩:=List.any_eq_true.mp h2
  have e:x.k=c:=by simpa using e
  exact ⟨⟨x,List.mem_flatten.mpr ⟨t,ht,hx⟩,e⟩,by simpa using h⟩
def RetM (w:World) (T:TypeId) (a:Agr) (e:Ending) (w' : World):Prop :=
 ∃ v l,e = .returned v∧l.length≤a.flatten.length∧(∀ c,c∈l↔c≠-1∧memA a c=true)∧SOwn w' w.heap.size T 1 v l.length (cJ l)∧Below w.heap.size w w'
set_option maxRecDepth 100000 in
theorem members_any (p:Nat→Prop) (v:Value) (a:Agr) (w:World) (hA:RTiers w p v a) (la:a.length≤140737488351232) (lf:a.flatten.length≤1000000) :
  Calls Tryz.prog 139 #[.agg #[v]] w (RetM w 3 a):=by
 have HC:=Lib.hid (fun w' (h:RTiers w' p v a)=>concat_part p v a w' h la lf)
 have HA:=Lib.hid hA
 have HM:=Lib.hid (fun c=>mks_all (a:=a) (c:=c))
 have HY:=Lib.hid (fun k h h2=>mks_yes (l:=a.flatten) (k:=k) h h2)
 have HN:=Lib.hid (fun k h h2=>mks_no (l:=a.flatten) (k:=k) h h2)
 have HL:=Lib.hid (mks_len a.flatten)
 have H0:=Lib.hid (mks_zero a.flatten)
 unfold RetM
 clear hA
 generalize hmm:mks a.flatten=MK at *
 generalize hfl:a.flatten=fl at *
 clear hmm hfl
 generalize hN:fl.length=N at *
 go_enter Tryz.func139,Tryz.ntmps139
 go_wp2_with fail
 refine (HC.out _ (HA.out.on ((Below.refl _ _).alloc (Nat.le_refl _) _))).mono ?_
 rintro e w1 ⟨v1,rfl,ho1,hb1⟩
 obtain ⟨-,HB⟩:=boxes1 hb1
 have HB:=Lib.hid HB
 have hz1:=HB.out.size
 have hsl:=ho1.sl
 obtain ⟨a1,cap1,rfl,-,-⟩:=hsl.form
 have HSL:=Lib.hid hsl
 clear ho1 hb1 hsl HC HA
 go_wp2_with fail
 go_loopw [3,10] (fun v i wr=>∃ k:Nat,i = .int .i64 k∧k≤N∧SOwn wr w1.heap.size 3 1 v (MK k).length (cJ (MK k))∧Below w1.heap.size w1 wr) (fun _ i _=>N - (intOf i).toNat)
 case atStart=>exact ⟨0,rfl,by omega,by rw [H0.out]; exact SOwn.nil _ _ _ _ _,Below.refl _ _⟩
 case round =>
  obtain ⟨k,rfl,hk,hown,hbel⟩:=hrel
  have HO:=Lib.hid hown
  have HBR:=Lib.hid hbel
  have hsz:=hbel.size
  by_cases hlt:k<N
  ·obtain ⟨b,off,rfl,-,-,-⟩:=HSL.out.get (by omega)
   have e0:=HSL.out.cellAt rfl hbel (i:=k) (j:=0) hlt (by omega)
   have e1:wr.cell? ⟨b,off+k*5+1,none⟩=some (Value.bool (ix fl k).b):=HSL.out.cellAt rfl hbel (i:=k) (j:=1) hlt (by omega)
   have e2:wr.cell? ⟨b,off+k*5+2,none⟩=some (Value.bool (ix fl k).a.n):=HSL.out.cellAt rfl hbel (i:=k) (j:=2) hlt (by omega)
   have e3:wr.cell? ⟨b,off+k*5+3,none⟩=some (Value.string (ix fl k).a.s):=HSL.out.cellAt rfl hbel (i:=k) (j:=3) hlt (by omega)
   have e4:wr.cell? ⟨b,off+k*5+4,none⟩=some (Value.string (ix fl k).a.d):=HSL.out.cellAt rfl hbel (i:=k) (j:=4) hlt (by omega)
   rw [Nat.add_zero] at e0
   have e0' : wr.cell? ⟨b,off+k*5,none⟩=some (Value.int .i64 (ix fl k).k):=e0
   have HYK:=Lib.hid (HY.out k (by omega))
   have HNK:=Lib.hid (HN.out k (by omega))
   have hlk:=HL.out k
   have i1:(0:Int)≤(k:Int):=by omega
   have i2:(k:Int)<(N:Int):=by omega
   clear e0 hown hbel HY HN HL HM
   generalize hmk1:MK (k+1)=M1 at *
   have HM1:=Lib.hid hmk1
   generalize hmk0:MK k=M0 at *
   clear hmk1 hmk0
   generalize (ix fl k).k=x at *
   generalize (ix fl k).b=pb at *
   generalize (ix fl k).a.n=an at *
   generalize (ix fl k).a.s=as' at *
   generalize (ix fl k).a.d=ad at *
   by_cases hx:x = -1
   ·have h1:(x != -1)=false:=by simp [hx]
    have HX:=Lib.hid (HNK.out hx)
    clear HYK HNK
    go_wp2
    go_roundw
    case rel=>exact ⟨k+1,by go_num,by omega,by rw [HM1.out,HX.out]; exact HO.out.below ((Below.refl _ _).alloc (Nat.le_refl _) _) (Nat.le_refl _),HBR.out.alloc (by omega) _⟩
    case measure=>simp [intOf]; omega
   ·have h1:(x != -1)=true:=by simp [hx]
    have HX:=Lib.hid (HYK.out hx)
    have HO2:=Lib.hid (HO.out.below ((Below.refl wr.heap.size wr).alloc (Nat.le_refl _) (.cells #[.int .i64 x,.bool pb,.bool an,.string as',.string ad] 84)) (Nat.le_refl _))
    have hz2:(wr.alloc (.cells #[.int .i64 x,.bool pb,.bool an,.string as',.string ad] 84)).heap.size=wr.heap.size+1:=by simp
    clear HYK HNK
    go_wp2_with (refine wpList_appendS _ _ 188 3 1 8 w1.heap.size _ _ _ [.int .i64 x] (by rfl) (by rfl) Tryz.underlying188 intInfo (by omega) (by rfl) (by rfl) (by simp [Value.oneCell']) (by rw [World.size_alloc]; rfl) HO2.out (by omega) (by omega) (by rw [World.size_alloc]; omega) ?_; intro v9 w9 ho9 hb9; have HO9:=Lib.hid ho9; have HB9:=Lib.hid hb9; clear ho9 hb9)
    go_roundw
    case rel =>
     refine ⟨k+1,by go_num,by omega,?_,(HBR.out.alloc (by omega) _).trans HB9.out⟩
     rw [HM1.out,HX.out,List.length_append]
     exact HO9.out.congr fun j hj=>cJ_snoc _ _ j hj
    case measure=>simp [intOf]; omega
  ·obtain rfl:k=N:=by omega
   have hnl:decide ((k:Int)<(k:Int))=false:=by simp
   have hlk:=HL.out k
   have HST:=Lib.hid (sort_own wr w1.heap.size u3 (MK k) hown (by omega) (by omega))
   go_wp2_with fail
   refine HST.out.mono ?_
   rintro e w2 ⟨rfl,l2,hl2,hm2,ho2,hb2⟩
   have HCP:=Lib.hid (compact_own w2 w1.heap.size u3 l2 ho2 (by omega))
   have HB2:=Lib.hid (HBR.out.trans hb2)
   have HM2:=Lib.hid hm2
   clear ho2 hb2 HST hm2 hown hbel
   go_wp2_with fail
   refine HCP.out.mono ?_
   rintro e w3 ⟨v3,l3,rfl,hl3,hm3,ho3,hb3⟩
   have HO3:=Lib.hid ho3
   have HM3:=Lib.hid hm3
   have HB3:=Lib.hid (HB2.out.trans hb3)
   clear ho3 hm3 hb3
   go_wp2
   go_ret
   exact ⟨_,l3,rfl,by omega,fun c=>by rw [HM3.out,HM2.out,HM.out],HO3.out.mono (by omega),chain HB.out HB3.out (Nat.le_refl _)⟩
end Go.Proofs.Ins
