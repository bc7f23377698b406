/- A set of dN as a map; the walk of guarantee.holder. -/
import Derived.Test.YtjonjhcaniinaaaGreatDoorZ22
set_option linter.all false
set_option maxRecDepth 100000
set_option maxHeartbeats 8000000
namespace Go.Proofs.Ins
open Go.RowKit
structure Only (b:Nat) (w w' : World):Prop where
 os:w'.os=w.os
 tape:w'.tape=w.tape
 output:w'.output=w.output
 size:w'.heap.size=w.heap.size
 block : ∀ k,k≠b→w'.heap[k]?=w.heap[k]?
theorem Only.refl (b:Nat) (w:World):Only b w w:=⟨rfl,rfl,rfl,rfl,fun _ _=>rfl⟩
theorem Only.set {b:Nat} {w w' : World} (h:Only b w w') (i:Nat) (v:Value):Only b w (w'.setCell ⟨b,i,none⟩ v):=by
 have hs:(w'.setCell ⟨b,i,none⟩ v).heap.size=w'.heap.size:=by unfold World.setCell;simp
 have h1:(w'.setCell ⟨b,i,none⟩ v).os=w'.os:=rfl
 exact ⟨h.os,h.tape,h.output,hs.trans h.size,fun k hk=>(heap_setCell_other w' ⟨b,i,none⟩ k v hk).trans (h.block k hk)⟩
theorem Only.below {b B:Nat} {w w' : World} (h:Only b w w') (hB:B≤b):Below B w w':=⟨h.os,h.tape,h.output,by rw [h.size];exact jp,fun k hk=>h.block k jb⟩
theorem Xn {n:Nat} {tk:Int→Bool} {a:fK} (h:uD n tk a=0) {c:Int} (h2:Dw a c=true) : -1≤c∧c<n:=by
 have hl:yc a=false:=by
  cases e:yc a
  ·rfl
  ·rw [EU e] at h;cases h
 have h3:mD (fun i=>aiH n tk (ix a i)) a.length=0:=by
  unfold uD at h;rw [if_neg (by rw [hl];simp)] at h;exact h
 obtain ⟨i,hi,h4⟩:=Y6.mp h2
 obtain ⟨j,hj,h5⟩:=Y5.mp h4
 have h6:=kG (kG h3 i hi) j hj
 by_cases h7:(ix (ix a i) j).k < -1
 ·have:=Xf (n:=n) (tk:=tk) (b:=(ix (ix a i) j).b) (r:=(ix (ix a i) j).a) h7
  rw [this] at h6;cases h6
 ·by_cases h8:(n:Int)≤(ix (ix a i) j).k
  ·have:=Xg (n:=n) (tk:=tk) (b:=(ix (ix a i) j).b) (r:=(ix (ix a i) j).a) h8
   rw [this] at h6;cases h6
  ·omega
theorem aeZ:(Tryz.prog.info? 4).map (fun i=>(i.zero.map (fun z=>z.cells.toList),i.size,i.bytes))=some (some [.bool false],1,1):=by kernel_rfl
theorem Qh {l:List fK} {k:Nat} (h:k<l.length) {s:List Int} (hs : ∀ c,c∈s↔c≠-1∧Dw (ix l k) c=true) (i:Nat):(lV l k (i:Int) || s.contains (i:Int))=lV l (k+1) (i:Int):=by
 rw [abv h]
 congr 1
 rw [Bool.eq_iff_iff,List.contains_iff_mem,hs]
 exact ⟨fun h=>h.2,fun h=>⟨jb,h⟩⟩
theorem MH {s:List Int} {k:Nat} (h:k<s.length) (c:Int):(s.take (k+1)).contains c=((s.take k).contains c || (s.getD k 0 == c)):=by
 have e:s.take (k+1)=s.take k ++ [s.getD k 0]:=by rw [List.take_add_one];simp [h,List.getD]
 rw [e,Bool.eq_iff_iff,Bool.or_eq_true,List.contains_iff_mem,List.contains_iff_mem,List.mem_append,List.mem_singleton,beq_iff_eq]
 exact ⟨fun h=>h.imp id Eq.symm,fun h=>h.imp id Eq.symm⟩
theorem Gx (p:Nat→Prop) (e:qN) (cv av:Value) (w:World) (hC:nY w p cv e.c) (hA:y7 w p av e.a) (hs:aeE 134217728 e) :
  Calls Tryz.prog 51 #[e.v cv av] w fun x w'=>x = .returned (.int .i64 (lH e))∧Below w.heap.size w w':=by
 obtain ⟨a1,c1,rfl,-,-⟩:=hC.plain.form
 have HC:=jx hC.plain
 have arZ:=jx (fun w=>Hz e.m w ⟨by have:=hs.m.1;omega,by have:=hs.m.2;omega⟩)
 have HFC:=jx hs.c
 have lc:=hs.lc
 have la:=hs.la
 obtain ⟨GA,hSA,hQA⟩:=hA
 obtain ⟨aa,ca,rfl,-,-⟩:=hSA.form
 have HSA:=jx hSA
 have HQA:=jx hQA
 have HG:=jx (fun k (hk:k<e.a.length) w v at' ct tk (h:kT w p v (ix e.a k)) (hT:OG w at' e.c.length 1 (cT tk))=>Qg p v (ix e.a k) at' e.c.length ct tk w h hT (hs.lt k hk) hs.lc (hs.a k · · hk))
 have HM:=jx (fun k (hk:k<e.a.length) w v (h:kT w p v (ix e.a k)) lf=>F8 p v (ix e.a k) w h (hs.lt k hk) lf)
 have E1:=jx (fun h=>amO (e:=e) h)
 have E2:=jx (fun h=>amP (e:=e) h)
 have E3:=jx (fun h h2 h3=>amQ (e:=e) h h2 h3)
 have E4:=jx (fun i h h2 h3 h4 h5 h6=>amR (e:=e) (i:=i) h h2 h3 h4 h5 h6)
 have E5:=jx (fun i h h2 h3 h4 h5 h6 h7=>amS (e:=e) (i:=i) h h2 h3 h4 h5 h6 h7)
 have E6:=jx (fun h h2 h3 h4 h5=>amT (e:=e) h h2 h3 h4 h5)
 unfold qN.v
 clear hs hC hSA hQA
 generalize lH e=R at *
 generalize hcl:e.c=cl at *
 generalize hal:e.a=al at *
 generalize e.m=m at *
 clear hcl hal
 generalize sg m.q=sm at *
 generalize m.n=mn at *
 generalize m.s=ms at *
 generalize m.d=md at *
 generalize hnc:cl.length=nc at *
 generalize hna:al.length=na at *
 by_cases g1:24<nc
 ·have HR:=jx (E1.out g1)
  have d1:decide (24<nc)=true:=decide_eq_true g1
  have d1' : decide ((24:Int)<(nc:Int))=true:=by simp;omega
  clear E1 E2 E3 E4 E5 E6
  go_enter Tryz.func51,Tryz.ntmps51
  go_wp2
  go_ret
  exact ⟨aW HR.out.symm,(Below.refl _ _).alloc jp _⟩
 ·have d1:decide (24<nc)=false:=decide_eq_false g1
  have d1' : decide ((24:Int)<(nc:Int))=false:=by simp;omega
  by_cases g2:12<na
  ·have HR:=jx (E2.out g2)
   have d2:decide (12<na)=true:=decide_eq_true g2
   have d2' : decide ((12:Int)<(na:Int))=true:=by simp;omega
   clear E1 E2 E3 E4 E5 E6
   go_enter Tryz.func51,Tryz.ntmps51
   go_wp2
   go_ret
   exact ⟨aW HR.out.symm,(Below.refl _ _).alloc jp _⟩
  ·have d2:decide (12<na)=false:=decide_eq_false g2
   have d2' : decide ((12:Int)<(na:Int))=false:=by simp;omega
   have E3:=jx (E3.out g1 g2)
   have E4:=jx (fun i=>E4.out i g1 g2)
   have E5:=jx (fun i=>E5.out i g1 g2)
   have E6:=jx (E6.out g1 g2)
   clear E1 E2
   go_enter Tryz.func51,Tryz.ntmps51
   go_wp2_with fail
   refine (arZ.out _).mono ?_;rintro x w1 ⟨rfl,hb1⟩
   obtain ⟨J0,HB⟩:=fZ hb1
   have k3:w1.cell? ⟨w.heap.size,3,none⟩=some (.slice a1 nc c1):=J0.cell 3
   have J0:=jx J0
   have HB:=jx HB
   clear hb1
   by_cases g3:sm<0
   ·have d3:decide (sm<0)=true:=decide_eq_true g3
    have HR:=jx (E3.out g3)
    clear E3 E4 E5 E6
    go_wp2
    go_ret
    exact ⟨aW HR.out.symm,HB.out⟩
   ·have d3:decide (sm<0)=false:=decide_eq_false g3
    have E4:=jx (fun i=>E4.out i jb)
    have E5:=jx (fun i=>E5.out i jb)
    have E6:=jx (E6.out jb)
    clear E3
    go_wp2_with fail
    clear k3
    go_loopw [30] (fun i wr=>∃ t:Nat,i = .int .i64 t∧t≤nc∧bY wr w.heap.size #[.bool mn,.string ms,.string md,.slice a1 nc c1,.slice aa na ca]∧Below w.heap.size w wr∧Hid (∀ i,i<t→oJ (ix cl i)=0)) (fun i _=>nc - (intOf i).toNat)
    case atStart=>exact ⟨0,rfl,jb,J0.out,HB.out,fun i hi=>jb⟩
    case round =>
     obtain ⟨t,rfl,ht,K0,hbt,hst⟩:=hrel
     have J0:=jx K0
     have HB:=jx hbt
     have hz:=hbt.size
     clear K0 hbt
     by_cases hlt:t<nc
     ·obtain ⟨b3,JZ,rfl,-,-,-⟩:=HC.out.get jb
      have e0:=HC.out.cellAt rfl HB.out (i:=t) (j:=0) hlt jb
      have e1:wr.cell? ⟨b3,JZ+t*5+1,none⟩=some (.int .i64 (ix cl t).r):=HC.out.cellAt rfl HB.out (i:=t) (j:=1) hlt jb
      have e2:wr.cell? ⟨b3,JZ+t*5+2,none⟩=some (.bool (ix cl t).a.n):=HC.out.cellAt rfl HB.out (i:=t) (j:=2) hlt jb
      have e3:wr.cell? ⟨b3,JZ+t*5+3,none⟩=some (.string (ix cl t).a.s):=HC.out.cellAt rfl HB.out (i:=t) (j:=3) hlt jb
      have e4:wr.cell? ⟨b3,JZ+t*5+4,none⟩=some (.string (ix cl t).a.d):=HC.out.cellAt rfl HB.out (i:=t) (j:=4) hlt jb
      rw [Nat.add_zero] at e0
      have e0' : wr.cell? ⟨b3,JZ+t*5,none⟩=some (.int .i64 (ix cl t).h):=e0
      have HH:=jx (E4.out t hlt hst.out)
      have HN:=jx (fun h=>nZ (p:=fun i=>oJ (ix cl i)=0) hst.out h)
      have ht1:(0:Int)≤(t:Int):=jb
      have ht2:(t:Int)<(nc:Int):=jb
      have fr:=HFC.out t hlt
      clear e0 hst E4 E5 E6 HFC HG HM HSA HQA
      generalize ix cl t=P at *
      obtain ⟨h,r,a⟩:=P
      simp only at e0' e1 e2 e3 e4 HH HN fr
      have HSG:=jx (fun w=>Hz a w ⟨by have:=fr.1;omega,by have:=fr.2;omega⟩)
      have F1:=jx (fun (h1:h < -1)=>(HH.out (by rw [aeK h1];omega)).trans (aeK h1))
      have F2:=jx (fun (h1:8≤h)=>(HH.out (by rw [aeL h1];omega)).trans (aeL h1))
      have F3:=jx (fun (h1 : ¬ h < -1) (h2 : ¬ 8≤h) (h3:r<0)=>(HH.out (by rw [aeM h1 h2 h3];omega)).trans (aeM h1 h2 h3))
      have F4:=jx (fun (h1 : ¬ h < -1) (h2 : ¬ 8≤h) (h3:7<r)=>(HH.out (by rw [aeN h1 h2 h3];omega)).trans (aeN h1 h2 h3))
      have F5:=jx (fun (h1 : ¬ h < -1) (h2 : ¬ 8≤h) (h3 : ¬ r<0) (h4 : ¬ 7<r) (h5:sg a.q<0)=>(HH.out (by rw [aeO h1 h2 h3 h4 h5];omega)).trans (aeO h1 h2 h3 h4 h5))
      have F6:=jx (fun (h1 : ¬ h < -1) (h2 : ¬ 8≤h) (h3 : ¬ r<0) (h4 : ¬ 7<r) (h5 : ¬ sg a.q<0)=>HN.out (amN h1 h2 h3 h4 h5))
      clear HH HN fr
      generalize sg a.q=s at *
      generalize a.n=an at *
      generalize a.s=as' at *
      generalize a.d=ad at *
      by_cases h1:h < -1
      ·have dh1:decide (h < -1)=true:=decide_eq_true h1
       have HR:=jx (F1.out h1)
       clear F1 F2 F3 F4 F5 F6
       go_wp2
       go_ret
       exact ⟨aW HR.out.symm,HB.out.alloc jb _⟩
      ·have dh1:decide (h < -1)=false:=decide_eq_false h1
       by_cases h2:8≤h
       ·have dh2:decide (8≤h)=true:=decide_eq_true h2
        have HR:=jx (F2.out h2)
        clear F1 F2 F3 F4 F5 F6
        go_wp2
        go_ret
        exact ⟨aW HR.out.symm,HB.out.alloc jb _⟩
       ·have dh2:decide (8≤h)=false:=decide_eq_false h2
        by_cases h3:r<0
        ·have dh3:decide (r<0)=true:=decide_eq_true h3
         have HR:=jx (F3.out h1 h2 h3)
         clear F1 F2 F3 F4 F5 F6
         go_wp2
         go_ret
         exact ⟨aW HR.out.symm,HB.out.alloc jb _⟩
        ·have dh3:decide (r<0)=false:=decide_eq_false h3
         by_cases h4:7<r
         ·have dh4:decide (7<r)=true:=decide_eq_true h4
          have HR:=jx (F4.out h1 h2 h4)
          clear F1 F2 F3 F4 F5 F6
          go_wp2
          go_ret
          exact ⟨aW HR.out.symm,HB.out.alloc jb _⟩
         ·have dh4:decide (7<r)=false:=decide_eq_false h4
          by_cases h5:s<0
          ·have dh5:decide (s<0)=true:=decide_eq_true h5
           have HR:=jx (F5.out h1 h2 h3 h4 h5)
           clear F1 F2 F3 F4 F5 F6
           go_wp2_with fail
           refine (HSG.out _).mono ?_;rintro e w3 ⟨rfl,hb3⟩
           obtain ⟨-,hbw⟩:=fZ hb3
           have J0:=jx (J0.out.on hbw)
           have HB:=jx (chain HB.out hbw jp)
           clear hb3 hbw e0' e1 e2 e3 e4
           go_wp2
           go_ret
           exact ⟨aW HR.out.symm,HB.out⟩
          ·have dh5:decide (s<0)=false:=decide_eq_false h5
           have HX:=jx (F6.out h1 h2 h3 h4 h5)
           clear F1 F2 F3 F4 F5 F6
           go_wp2_with fail
           refine (HSG.out _).mono ?_;rintro e w3 ⟨rfl,hb3⟩
           obtain ⟨-,hbw⟩:=fZ hb3
           have J0:=jx (J0.out.on hbw)
           have HB:=jx (chain HB.out hbw jp)
           clear hb3 hbw e0' e1 e2 e3 e4
           go_wp2
           go_roundw
           case rel=>exact ⟨t+1,by go_num,jb,J0.out,HB.out,HX.out⟩
           case measure=>simp [intOf];omega
     ·obtain rfl:t=nc:=jb
      have hnl:decide ((t:Int)<(t:Int))=false:=by simp
      have E5:=jx (fun i=>E5.out i hst.out)
      have E6:=jx (E6.out hst.out)
      obtain ⟨z0,z1,z2,z3,z4⟩:=J0.out.c5
      clear E4 hst HC HFC
      go_wp2_with (refine P9 _ _ 32 4 [.bool false] 1 t (t:Int) (by rfl) (by rfl) Tryz.underlying32 aeZ kc (by rfl) (by rfl) rfl jb jb ?_;intro w10 aqb anc ar0;have ae0:=jx aqb;have aqc:=jx anc;have J10:=jx (J0.out.on anc);obtain ⟨y0,y1,y2,y3,y4⟩:=J10.out.c5;clear aqb anc z0 z1 z2 z3 z4)
      have ar1 : ∃ bt,bt=wr.heap.size:=⟨_,rfl⟩
      obtain ⟨bt,hbt⟩:=ar1
      rw [← hbt] at ae0
      have ar2:bt<w10.heap.size:=jb
      have ato:w.heap.size<bt:=by have:=J0.out.lt;omega
      have HB:=jx (chain HB.out aqc.out jp)
      have ae0:=jx (ae0.out.congr (G:=cT (lV al 0)) fun i hi=>by unfold cT;rw [abu])
      rw [← hbt]
      clear hbt aqc ar0 y0 y1 y2 y3 y4 J0
      go_loopw [65] (fun i W=>∃ q:Nat,i = .int .i64 q∧q≤na∧bY W w.heap.size #[.bool mn,.string ms,.string md,.slice a1 t c1,.slice aa na ca]∧Own W bt 1 t (cT (lV al q))∧Below w.heap.size w W∧bt<W.heap.size∧Hid (∀ i,i<q→uD t (lV al i) (ix al i)=0)) (fun i _=>na - (intOf i).toNat)
      case atStart=>exact ⟨0,rfl,jb,J10.out,ae0.out,HB.out,ar2,fun i hi=>jb⟩
      case round =>
       obtain ⟨q,rfl,hq,K0,KO,hbq,hbz,hsq⟩:=hrel
       have J0:=jx K0
       have KO:=jx KO
       have HB:=jx hbq
       have hzq:=hbq.size
       clear K0 hbq ae0 J10
       by_cases hlq:q<na
       ·obtain ⟨ba,ar4,rfl,-,-,-⟩:=HSA.out.get jb
        obtain ⟨tv,hga,hRT⟩:=HQA.out q hlq
        obtain ⟨at2,ct2,rfl,-,-⟩:=(show ∃ aa ca,tv = .slice aa (ix al q).length ca∧True∧True from by obtain ⟨G,hS,-⟩:=hRT;obtain ⟨x,y,h,-,-⟩:=hS.form;exact ⟨x,y,h,trivial,trivial⟩)
        generalize hnt:(ix al q).length=nt at *
        have c0:=HSA.out.cellAt rfl HB.out (i:=q) (j:=0) hlq jb
        rw [hga,Nat.mul_one,Nat.add_zero] at c0
        have c0' : wr.cell? ⟨ba,ar4+q,none⟩=some (Value.slice at2 nt ct2):=c0
        have HRT:=jx (fun W (h:Below w.heap.size w W)=>hRT.on h)
        have HGQ:=jx (fun ct w h hT=>HG.out q hlq w (.slice at2 nt ct2) (some ⟨bt,0,none⟩) ct (lV al q) h hT)
        have HMQ:=jx (fun w h lf=>HM.out q hlq w (.slice at2 nt ct2) h lf)
        have HE5:=jx (E5.out q hlq hsq.out)
        have HN:=jx (fun h=>nZ (p:=fun i=>uD t (lV al i) (ix al i)=0) hsq.out h)
        have HRG:=jx (fun h c h2=>Xn (n:=t) (tk:=lV al q) (a:=ix al q) h (c:=c) h2)
        have HFL:=jx (fun (h:uD t (lV al q) (ix al q)=0)=>(show (ix al q).flatten.length≤576 from by
         refine Gf ?_
         cases e:yc (ix al q)
         ·rfl
         ·rw [EU e] at h;cases h))
        have HEM:=jx (fun s (hs : ∀ c,c∈s↔c≠-1∧Dw (ix al q) c=true) i=>Qh (l:=al) (k:=q) jb hs i)
        have i1:(0:Int)≤(q:Int):=jb
        have i2:(q:Int)<(na:Int):=jb
        clear hsq HG HM E5 E6 c0 hga hRT
        generalize uD t (lV al q) (ix al q)=x at *
        go_wp2_with fail
        refine (HGQ.out _ _ (HRT.out _ (HB.out.alloc jb _)) (KO.out.alloc _).arg).mono ?_;rintro e w4 ⟨rfl,hb4⟩
        obtain ⟨K2,hbw⟩:=fZ hb4
        have k2:w4.cell? ⟨wr.heap.size,0,none⟩=some (Value.slice at2 nt ct2):=K2.cell 0
        have J0:=jx (J0.out.on hbw)
        have KO:=jx (KO.out.on hbw)
        have HB:=jx (chain HB.out hbw jp)
        have hz4:=hbw.size
        clear hb4 hbw c0' K2
        by_cases hx:x=0
        ·have HX:=jx (HN.out hx)
         have ar5:=jx (show ∀ c,Dw (ix al q) c=true→-1≤c∧c<(t:Int) from fun c h2=>HRG.out hx c h2)
         have hfl:=HFL.out hx
         subst hx
         clear HN HE5 HFL HRG
         go_wp2_with fail
         refine (HMQ.out _ (HRT.out _ HB.out) jb).mono ?_;rintro e w5 ⟨v5,l,rfl,hll,hlm,ho5,hb5,-,-⟩
         have hsl:=ho5.sl
         obtain ⟨a5,cap5,rfl,-,-⟩:=hsl.form
         have HSL:=jx hsl
         have HLM:=jx hlm
         have HEM:=jx (HEM.out l hlm)
         have J0:=jx (J0.out.on hb5)
         have KO:=jx (KO.out.on hb5)
         have HB:=jx (chain HB.out hb5 jp)
         have hz5:=hb5.size
         clear ho5 hb5 hsl hlm k2 HMQ HGQ HRT
         have KO:=jx (KO.out.congr (G:=cT (fun c=>lV al q c || (l.take 0).contains c)) fun i hi=>by unfold cT;simp)
         generalize hnl:l.length=nl at *
         go_wp2_with fail
         go_loopw [78] (fun i W=>∃ j:Nat,i = .int .i64 j∧j≤nl∧Only bt w5 W∧Own W bt 1 t (cT (fun c=>lV al q c || (l.take j).contains c))) (fun i _=>nl - (intOf i).toNat)
         case atStart=>exact ⟨0,rfl,jb,Only.refl _ _,KO.out⟩
         case round =>
          obtain ⟨j,rfl,hj,hon,hown⟩:=hrel
          have HON:=jx hon
          have KO:=jx hown
          clear hown
          by_cases hlj:j<nl
          ·obtain ⟨b5,aqd,rfl,hpb,hlb,hr5⟩:=HSL.out.get jb
           have d0:=hr5 j 0 hlj jb
           rw [Nat.mul_one,Nat.add_zero] at d0
           have d1:wr.cell? ⟨b5,aqd+j,none⟩=some (Value.int .i64 (l.getD j 0)):=by
            rw [World.cell?_of_block (w:=w5) (a:=⟨b5,aqd+j,none⟩) (hon.block b5 jb)];exact d0
           have hmem:l.getD j 0∈l:=by rw [List.getD,List.getElem?_eq_getElem jb];exact List.getElem_mem _
           have hm1:=(HLM.out _).mp hmem
           have hr1:=ar5.out _ hm1.2
           have hct:=MH (s:=l) (k:=j) jb
           have HCT:=jx hct
           clear d0 hr5 hmem hct hon
           have hm2:=hm1.1
           clear hm1
           generalize l.getD j 0=c at *
           obtain ⟨i,rfl⟩ : ∃ i:Nat,c=(i:Int):=Int.eq_ofNat_of_zero_le jb
           have hin:i<t:=jb
           have i7:(0:Int)≤(i:Int):=jb
           have i8:(i:Int)<(t:Int):=jb
           have j1:(0:Int)≤(j:Int):=jb
           have j2:(j:Int)<(nl:Int):=jb
           have f0:=KO.out.frozen i
           have q0:=KO.out.cell (i:=i) (j:=0) hin jb
           rw [Nat.mul_one,Nat.add_zero] at q0
           have q0' : wr.cell? ⟨bt,i,none⟩=some (Value.bool (lV al q (i:Int) || (l.take j).contains (i:Int))):=q0
           clear q0
           go_wp2_with fail
           go_roundw
           case rel =>
            refine ⟨j+1,by go_num,jb,HON.out.set _ _,(Own.set1 KO.out i _ hin rfl).congr fun k hk=>?_⟩
            unfold cT
            dsimp only
            rw [HCT.out]
            by_cases e:k=i
            ·subst e;rw [aH];simp
            ·rw [JU e]
             have:((i:Int) == (k:Int))=false:=by simp;omega
             rw [this,Bool.or_false]
           case measure=>simp [intOf];omega
          ·obtain rfl:j=nl:=jb
           have ar6:decide ((j:Int)<(j:Int))=false:=by simp
           have KE:=jx (KO.out.congr (G:=cT (lV al (q+1))) fun i hi=>by
            unfold cT
            rw [← HEM.out i,← hnl,List.take_length])
           have JE:=jx (J0.out.block (hon.block _ jb))
           have HBE:=jx (HB.out.trans (hon.below jb))
           have hze:bt<wr.heap.size:=by rw [hon.size];omega
           clear hon KO J0
           go_wp2
           go_roundw
           case rel=>exact ⟨q+1,by go_num,jb,JE.out,KE.out,HBE.out,hze,HX.out⟩
           case measure=>simp [intOf];omega
        ·have HR:=jx (HE5.out hx)
         have hx2:(x != 0)=true:=by simp [hx]
         have hx3:(x == 0)=false:=by simp [hx]
         clear HN HE5
         go_wp2
         go_ret
         exact ⟨aW HR.out.symm,HB.out⟩
       ·obtain rfl:q=na:=jb
        have HR:=jx (E6.out hsq.out)
        have hnl:decide ((q:Int)<(q:Int))=false:=by simp
        go_wp2
        go_ret
        exact ⟨aW HR.out.symm,HB.out⟩
theorem ae1:laidOutB Tryz.prog=true:=by kernel_rfl
theorem rowLeg:(102:TypeId)<Tryz.prog.types.size:=of_decide_eq_true (by kernel_rfl)
theorem wideLeg:(match Tryz.prog.underlying 102 with|some (.array _ _)|some (.struct _)=>true|_=>false)=true:=by kernel_rfl
theorem lawLeg:WideMaps.KeyLaw Tryz.prog 102:=deep_law_laid ae1 (m:=3) jb rowLeg (by kernel_rfl) wideLeg
theorem Dz:Maps.Keyed Tryz.prog 102:=Maps.Keyed.of_law lawLeg
theorem wC (a b:Int) (ha:(Lit.int .i64 a).wf=true) (hb:(Lit.int .i64 b).wf=true) : ∃ l,keyOf Tryz.prog 102 (.agg #[.int .i64 a,.int .i64 b])=some l:=by
 have h1:Tryz.prog.keyType 102=true:=by kernel_rfl
 have h2:(Value.agg #[.int .i64 a,.int .i64 b]).formed Tryz.prog 102=true:=by kernel_rfl
 have ald:Tryz.prog.cellsOf 102=2:=by kernel_rfl
 have c3:Tryz.prog.cellsOf 3=1:=by kernel_rfl
 have hpos:0<Tryz.prog.types.size:=of_decide_eq_true (by kernel_rfl)
 obtain ⟨m,hm⟩ : ∃ m,Tryz.prog.types.size=m+1:=⟨Tryz.prog.types.size - 1,jb⟩
 unfold keyOf
 rw [Tryz.underlying102]
 simp only [h1,h2,Value.cells,Bool.and_self,if_true,hm]
 simp [Program.keyLits,Tryz.underlying102,Tryz.underlying3,ald,c3,ha,hb]
def Lg.v (x:Lg):Value:=.agg #[.int .i64 x.e,.int .i64 x.k]
def oW (w:World) (b:Nat) (S:List Lg):Prop :=
 ∃ n D,n≤S.length∧w.ownsMap (H:=Unit) Tryz.prog 102 (plainElem Tryz.prog 4) b n D∧∀ (x:Lg) (l:Lit),keyOf Tryz.prog 102 x.v=some l→D.atKey l (.lit (.bool false)) = .lit (.bool (sZ S x))
theorem mX {P:Program} {e:TypeId} (he:P.underlying e=some .bool) {v:Value} {z:DataW Unit×List MemPlace} {b:Bool} (h:plainElem P e v=some z) (hz:z.1 = .lit (.bool b)):v = .bool b:=by
 unfold plainElem at h
 rw [he] at h
 cases v with
 | bool x =>
  have h2:=Option.some.inj h
  rw [← h2] at hz
  have h3:=Lit.bool.inj (DataW.lit.inj hz)
  rw [h3]
 | _=>cases h
theorem oW.made (w:World):oW (w.alloc (.map #[] 0)) w.heap.size [] :=
 ⟨0,.map [],jp,World.ownsMap_made _ _ _ _,fun x l _=>by simp [DataW.atKey,sZ]⟩
theorem oW.lt {w:World} {b:Nat} {S:List Lg} (h:oW w b S):b<w.heap.size:=by obtain ⟨n,D,_,h,_⟩:=h;exact h.lt
theorem iG {w w' : World} {row:Option Nat} (h:Below w.heap.size w w'):w.grownBy w' row:=⟨h.os,h.tape,h.output,h.size,fun k hk _=>h.block k hk⟩
theorem oW.kept {w w' : World} {b:Nat} {S:List Lg} {row:Option Nat} (h:oW w b S) (hg:w.grownBy w' row) (hne:some b≠row):oW w' b S:=by
 obtain ⟨n,D,h1,h2,h3⟩:=h
 exact ⟨n,D,h1,h2.kept hg hne,h3⟩
theorem oW.on {w w' : World} {b:Nat} {S:List Lg} (h:oW w b S) (hb:Below w.heap.size w w'):oW w' b S:=h.kept (row:=none) (iG hb) kc
theorem Jr (w:World):(zeroValue 4).run Tryz.prog w = .ok (.bool false) w:=by kernel_rfl
theorem oW.look {w:World} {b:Nat} {S:List Lg} (h:oW w b S) (x:Lg) (he:(Lit.int .i64 x.e).wf=true) (hk:(Lit.int .i64 x.k).wf=true) :
  (Instr.lookup 104 (.map (some b)) (.agg #[.int .i64 x.e,.int .i64 x.k]) false).run Tryz.prog w = .ok (.bool (sZ S x)) w:=by
 obtain ⟨n,D,h1,h2,h3⟩:=h
 obtain ⟨l,hl⟩:=wC x.e x.k he hk
 obtain ⟨v,ps,hr,hv⟩:=h2.lookup Dz Tryz.underlying104 (Jr w) (plainElem_bool Tryz.underlying4 false) hl
 rw [hr,mX Tryz.underlying4 hv (h3 x l hl)]
theorem Xo (S:List Lg) (x y:Lg):sZ (S ++ [x]) y=(sZ S y || Xh x y):=by
 unfold sZ Xh;rw [List.any_append];simp
theorem oW.store {w:World} {b:Nat} {S:List Lg} (h:oW w b S) (x:Lg) (he:(Lit.int .i64 x.e).wf=true) (hk:(Lit.int .i64 x.k).wf=true) (hS:S.length≤1000000) :
  ∃ w',(Instr.mapUpdate 104 (.map (some b)) (.agg #[.int .i64 x.e,.int .i64 x.k]) (.bool true)).run Tryz.prog w = .ok () w'∧oW w' b (S ++ [x])∧w.grownBy w' (some b):=by
 obtain ⟨n,D,h1,h2,h3⟩:=h
 obtain ⟨l,hl⟩:=wC x.e x.k he hk
 obtain ⟨w',hr,ho,hg⟩:=h2.update Dz Tryz.underlying104 (by unfold maxLen;omega) hl (plainElem_bool Tryz.underlying4 true)
 refine ⟨w',hr,⟨n+1,_,by simp;omega,ho,fun y l' hl'=>?_⟩,hg⟩
 rw [Xo]
 by_cases e:l' = l
 ·subst e
  have e2:=Dz.inj hl hl'
  have e3:Xh x y=true:=by
   unfold Lg.v at e2
   simp at e2
   unfold Xh;simp [e2]
  rw [e3,Bool.or_true,Maps.atKey_put_same h2.isMap (Dz.key hl)]
 ·rw [Maps.atKey_put_other e,h3 y l' hl']
  have e3:Xh x y=false:=by
   cases e4:Xh x y
   ·rfl
   ·exfalso
    unfold Xh at e4
    simp at e4
    have:x.v=y.v:=by unfold Lg.v;rw [e4.1,e4.2]
    have h5:keyOf Tryz.prog 102 x.v=some l:=hl
    rw [this,hl'] at h5
    exact e (Option.some.inj h5)
  rw [e3,Bool.or_false]
theorem Xp (p:Nat→Prop) (g:gK) (i j:Nat) (v:Value) (w:World) (hG:Gw w p v g) (hi:i<g.e.length) (hj:j<(ix g.e i).c.length) (le:g.e.length≤140737488351232) (lc:(ix g.e i).c.length≤140737488351232) :
  Calls Tryz.prog 91 #[v,.agg #[.int .i64 (i:Int),.int .i64 (j:Int)]] w fun e w'=>e = .returned (.int .i64 (ix (ix g.e i).c j).h)∧Below w.heap.size w w':=by
 obtain ⟨ev,dv,rfl,hE,-⟩:=hG
 obtain ⟨G,hS,hQ⟩:=hE
 obtain ⟨aa,cap,rfl,-,-⟩:=hS.form
 obtain ⟨b,off,rfl,-,-,-⟩:=hS.get jb
 obtain ⟨cv,av,hg,hC,-⟩:=hQ i hi
 obtain ⟨a2,cap2,rfl,-,-⟩:=hC.plain.form
 obtain ⟨b2,off2,rfl,-,-,-⟩:=hC.plain.get jb
 have HE:=jx (fun W (h:Below w.heap.size w W)=>hS.cellAt rfl h (i:=i) (j:=3) hi jb)
 have HC:=jx (fun W (h:Below w.heap.size w W) k (hk:k<5)=>hC.plain.cellAt rfl h (i:=j) (j:=k) hj hk)
 rw [hg] at HE
 have i1:(0:Int)≤(i:Int):=jb
 have i2:(i:Int)<(g.e.length:Int):=jb
 have j1:(0:Int)≤(j:Int):=jb
 have j2:(j:Int)<((ix g.e i).c.length:Int):=jb
 unfold C5.c at HC
 clear hS hQ hC hg
 generalize hn:g.e.length=n at *
 generalize hm:(ix g.e i).c.length=m at *
 generalize ix (ix g.e i).c j=P at *
 generalize P.h=x0 at *
 go_enter Tryz.func91,Tryz.ntmps91
 go_wp2_with fail
 refine dU (fun W=>bY W w.heap.size #[.slice (some ⟨b,off,none⟩) n cap,dv]∧bY W (w.heap.size+1) #[.int .i64 (i:Int),.int .i64 (j:Int)]∧Below w.heap.size w W) (duo w _ _ _ _) ?_
 rintro W ⟨h0,h1,hbel⟩
 have k0:=cell_regrown (show W.cell? ⟨w.heap.size,0,none⟩=some (Value.slice (some ⟨b,off,none⟩) n cap) from h0.cell 0)
 have k1:=cell_regrown (show W.cell? ⟨w.heap.size+1,0,none⟩=some (Value.int .i64 (i:Int)) from h1.cell 0)
 have k2:=cell_regrown (show W.cell? ⟨w.heap.size+1,1,none⟩=some (Value.int .i64 (j:Int)) from h1.cell 1)
 have k3:=cell_regrown (show W.cell? ⟨b,off+i*5+3,none⟩=some (Value.slice (some ⟨b2,off2,none⟩) m cap2) from HE.out W hbel)
 have k4:=cell_regrown (show W.cell? ⟨b2,off2+j*5,none⟩=some (Value.int .i64 x0) from HC.out W hbel 0 jb)
 have HB:=jx hbel
 clear h0 h1 hbel HE HC
 refine bU (by kernel_rfl) (by kernel_rfl) ?_
 repeat (first|go_big_quiet_skip|(refine wpQuiet_step (fun K hK=>?_);go_simp;(try simp (disch:=omega) only [Ed]);(first|(refine hK _ ?_;clear hK K)|(apply Exists.intro;refine ⟨fun _=>?_,hK _ ?_⟩;(fail);clear hK K))))
 clear k0 k1 k2 k3 k4
 refine wpQuiet_nil ?_
 intro W1 hb1
 have HB:=jx (chain HB.out hb1 jp)
 clear hb1
 go_wp2
 go_ret
 exact ⟨rfl,HB.out⟩
end Go.Proofs.Ins
