/- The walk of guarantee.Check. -/
import Derived.Test.YtjonjhcaniinaaaGreatDoorZ23
set_option linter.all false
set_option maxRecDepth 100000
set_option maxHeartbeats 8000000
namespace Go.Proofs.Ins
open Go.RowKit
theorem wf64 {a:Int} (h1 : -9223372036854775808≤a) (h2:a≤9223372036854775807):(Lit.int .i64 a).wf=true:=by
 unfold Lit.wf
 rw [Bool.and_eq_true,decide_eq_true_eq,decide_eq_true_eq]
 exact ⟨h1,h2⟩
theorem Xq {l:List oV} {d k:Nat} (hk:k<(ix l d).l.length):iM l d (k+1)=iM l d k ++ [ix (ix l d).l k]:=by
 unfold iM;rw [aZ hk,List.append_assoc]
theorem J4 {l:List oV} {d:Nat} (hd:d<l.length):iM l d (ix l d).l.length=iM l (d+1) 0:=by
 unfold iM;rw [aZ hd,List.flatMap_append,List.take_length];simp
theorem DC (l:List oV) (d k:Nat):(iM l d k).length≤(iM l d 0).length+k:=by
 unfold iM;simp;omega
theorem oW.next {w:World} {b:Nat} {l:List oV} {d k:Nat} (h:oW w b (iM l d k)) (hk:k<(ix l d).l.length) (he:(Lit.int .i64 (ix (ix l d).l k).e).wf=true) (hk' : (Lit.int .i64 (ix (ix l d).l k).k).wf=true) (hS:(iM l d k).length≤1000000) :
  ∃ w',(Instr.mapUpdate 104 (.map (some b)) (.agg #[.int .i64 (ix (ix l d).l k).e,.int .i64 (ix (ix l d).l k).k]) (.bool true)).run Tryz.prog w = .ok () w'∧oW w' b (iM l d (k+1))∧w.grownBy w' (some b):=by
 rw [Xq hk];exact h.store _ he hk' hS
theorem ae2 {p:Nat→Prop} {w w' : World} {b:Nat} (h:w.grownBy w' (some b)) (hp : ∀ x,p x→x≠b):Keeps p w w':=⟨fun x hx hl=>h.block x hl (by intro e;exact hp x hx (Option.some.inj e))⟩
theorem MI (p:Nat→Prop) (g:gK) (d:Nat) (v lv:Value) (b:Nat) (w:World) (hG:Gw w p v g) (hL:yZ w p lv (ix g.d d).l) (hd:d<g.d.length) (hs:vN 134217728 g) (hp : ∀ x,p x→x≠b) (hM:oW w b (iM g.d d 0)) (hn:(iM g.d d 0).length≤900000) :
  Calls Tryz.prog 52 #[v,.agg #[.bool (ix g.d d).w.n,.string (ix g.d d).w.s,.string (ix g.d d).w.d,lv],.map (some b)] w fun e w'=>e = .returned (.int .i64 (vM g d))∧w.grownBy w' (some b)∧(vM g d=0→oW w' b (iM g.d (d+1) 0)):=by
 have HGR:=jx hG
 have HMS:=jx hM
 have HP:=jx hp
 obtain ⟨ev,dv,rfl,hE,-⟩:=hG
 have ae3:=jx (fun i j w (h:Gw w p (.agg #[ev,dv]) g) hi hj=>Xp p g i j (.agg #[ev,dv]) w h hi hj hs.le (hs.e i hi).lc)
 have HSG:=jx (fun w=>Hz (ix g.d d).w w ⟨by have:=(hs.w d hd).1;omega,by have:=(hs.w d hd).2;omega⟩)
 have hlc:=fun i hi=>(hs.e i hi).lc
 have ar7:=jx hlc
 have hll:=hs.ll d hd
 have hle:=hs.le
 have hbz:=hM.lt
 obtain ⟨GE,hSE,hQE⟩:=hE
 obtain ⟨ae,xI,rfl,-,-⟩:=hSE.form
 obtain ⟨al,aiR,rfl,-,-⟩:=hL.plain.form
 have HSE:=jx hSE
 have HQE:=jx (fun i hi=>by
  obtain ⟨cv,av,hg,hC,-⟩:=hQE i hi
  obtain ⟨a2,cap2,e,-,-⟩:=hC.plain.form
  exact (⟨a2,cap2,av,by rw [hg,e]⟩ : ∃ a2 cap2 av,GE i=[.bool (ix g.e i).m.n,.string (ix g.e i).m.s,.string (ix g.e i).m.d,.slice a2 (ix g.e i).c.length cap2,av]))
 have HL:=jx hL.plain
 have E1:=jx (fun h=>aeQ (g:=g) (d:=d) h)
 have E2:=jx (fun h h2=>amX (g:=g) (d:=d) h h2)
 have E3:=jx (fun k h h2 h3 h4 h5=>amY (g:=g) (d:=d) (k:=k) h h2 h3 h4 h5)
 have E4:=jx (fun h h2 h3=>amZ (g:=g) (d:=d) h h2 h3)
 have L1:=jx (fun k h=>aeP (g:=g) (d:=d) (k:=k) h)
 have L2:=jx (fun k h h2=>amU (g:=g) (d:=d) (k:=k) h h2)
 have L3:=jx (fun k h h2 h3=>amV (g:=g) (d:=d) (k:=k) h h2 h3)
 have L4:=jx (fun k h h2 h3=>amW (g:=g) (d:=d) (k:=k) h h2 h3)
 have LR:=jx (fun k h=>Xi (g:=g) (d:=d) (k:=k) h)
 have HNX:=jx (fun k W (h:oW W b (iM g.d d k)) hk he hk' hS=>h.next (l:=g.d) (d:=d) (k:=k) hk he hk' hS)
 have HLE:=jx (J4 hd)
 have HLL:=jx (fun k=>Nat.le_trans (DC g.d d k) (Nat.add_le_add_right hn k))
 clear hs hSE hQE hL hlc hp hM hn hd
 generalize vM g d=R at *
 generalize hcl:(fun k=>nM g d k)=CL at *
 have hcl' : ∀ k,nM g d k=CL k:=fun k=>by rw [← hcl]
 simp only [hcl'] at E3 E4 L1 L2 L3 L4 LR
 generalize hW:(ix g.d d).w=Wh at *
 generalize hle' : (ix g.d d).l=dN at *
 clear hcl hcl' hW hle'
 generalize hSf:(fun k=>iM g.d d k)=SF at *
 have ae4 : ∀ k,iM g.d d k=SF k:=fun k=>by rw [← hSf]
 simp only [ae4] at L2 L3 L4 HNX HLE HLL HMS
 generalize iM g.d (d+1) 0=SN at *
 clear hSf ae4
 generalize sg Wh.q=sw at *
 generalize Wh.n=wn at *
 generalize Wh.s=ws at *
 generalize Wh.d=wd at *
 generalize hnl:dN.length=nl at *
 generalize hne:g.e.length=ne at *
 by_cases g1:8<nl
 ·have HR:=jx (E1.out g1)
  have c1:decide (8<nl)=true:=decide_eq_true g1
  have c1' : decide ((8:Int)<(nl:Int))=true:=by simp;omega
  clear E1 E2 E3 E4 L1 L2 L3 L4 LR
  go_enter Tryz.func52,Tryz.ntmps52
  go_wp2
  go_ret
  exact ⟨aW HR.out.symm,iG (((Below.refl _ _).alloc jp _).alloc kc _),fun h=>absurd (HR.out.symm.trans h) jj⟩
 ·have c1:decide (8<nl)=false:=decide_eq_false g1
  have c1' : decide ((8:Int)<(nl:Int))=false:=by simp;omega
  have E2:=jx (E2.out g1)
  have E3:=jx (fun k=>E3.out k g1)
  have E4:=jx (E4.out g1)
  clear E1
  go_enter Tryz.func52,Tryz.ntmps52
  go_wp2_with fail
  refine (HSG.out _).mono ?_;rintro x w1 ⟨rfl,hb1⟩
  obtain ⟨J0,J1,HB⟩:=OE hb1
  have q3:w1.cell? ⟨w.heap.size+1,3,none⟩=some (.slice al nl aiR):=J1.cell 3
  have J0:=jx J0
  have J1:=jx J1
  have HB:=jx HB
  clear hb1
  by_cases g2:sw<0
  ·have c2:decide (sw<0)=true:=decide_eq_true g2
   have HR:=jx (E2.out g2)
   clear E2 E3 E4 L1 L2 L3 L4 LR
   go_wp2
   go_ret
   exact ⟨aW HR.out.symm,iG HB.out,fun h=>absurd (HR.out.symm.trans h) jj⟩
  ·have c2:decide (sw<0)=false:=decide_eq_false g2
   have E3:=jx (fun k=>E3.out k jb)
   have E4:=jx (E4.out jb)
   clear E2
   go_wp2_with fail
   clear q3
   go_loopw [22] (fun i wr=>∃ k:Nat,i = .int .i64 k∧k≤nl∧bY wr w.heap.size #[.slice ae ne xI,dv]∧bY wr (w.heap.size+1) #[.bool wn,.string ws,.string wd,.slice al nl aiR]∧w.grownBy wr (some b)∧Hid (oW wr b (SF k))∧Hid (∀ i,i<k→CL i=0)) (fun i _=>nl - (intOf i).toNat)
   case atStart=>exact ⟨0,rfl,jb,J0.out,J1.out,iG HB.out,HMS.out.on HB.out,fun i hi=>jb⟩
   case round =>
    obtain ⟨k,rfl,hk,K0,K1,hgb,hms,hsk⟩:=hrel
    have HK:=jx (ae2 hgb HP.out)
    have HSE:=jx (HSE.out.keep HK.out.block)
    have HL:=jx (HL.out.keep HK.out.block)
    have HGR:=jx (HGR.out.keep HK.out fun _ h=>h)
    have hzr:w.heap.size+1<wr.heap.size:=K1.lt
    have J0:=jx K0
    have J1:=jx K1
    have HGB:=jx hgb
    have HB:Hid (Below wr.heap.size wr wr):=jx (Below.refl _ _)
    clear K0 K1 hgb HK HP
    by_cases hlt:k<nl
    ·obtain ⟨bl,abC,rfl,-,-,-⟩:=HL.out.get jb
     have HLC:=jx (fun W (h:Below wr.heap.size wr W)=>HL.out.cellAt rfl h (i:=k) (j:=0) hlt jb)
     have HLK:=jx (fun W (h:Below wr.heap.size wr W)=>HL.out.cellAt rfl h (i:=k) (j:=1) hlt jb)
     have HY1:=jx (fun W (h:Below wr.heap.size wr W)=>HL.out.cellAt rfl h (i:=0) (j:=0) jb jb)
     have HY2:=jx (fun W (h:Below wr.heap.size wr W)=>HL.out.cellAt rfl h (i:=0) (j:=1) jb jb)
     rw [Nat.add_zero] at HLC
     simp only [Nat.zero_mul,Nat.add_zero] at HY1 HY2
     have hy0 : ∀ (h : ¬ ((ix dN k).e<0∨(ne:Int)≤(ix dN k).e∨(ix dN k).k<0∨((ix g.e (ix dN k).e.toNat).c.length:Int)≤(ix dN k).k)),¬ ((ix dN 0).e<0∨(ne:Int)≤(ix dN 0).e∨(ix dN 0).k<0∨((ix g.e (ix dN 0).e.toNat).c.length:Int)≤(ix dN 0).k):=fun h=>by
      by_cases e:k=0
      ·rw [e] at h;exact h
      ·exact LR.out 0 (hsk.out 0 jb)
     have HY0:=jx hy0
     have HH:=jx (E3.out k hlt hsk.out)
     have HN:=jx (fun h=>nZ (p:=fun i=>CL i=0) hsk.out h)
     have ae5:=jx (fun W (h:oW W b (SF k)) he hk=>h.look (ix dN k) he hk)
     have HNX:=jx (fun W (h:oW W b (SF k)) he hk'=>HNX.out k W h hlt he hk' (by have:=HLL.out k;omega))
     have i1:(0:Int)≤(k:Int):=jb
     have i2:(k:Int)<(nl:Int):=jb
     have L1:=jx (L1.out k)
     have L2:=jx (L2.out k)
     have L3:=jx (L3.out k)
     have L4:=jx (L4.out k)
     have HMS:=jx hms.out
     clear hsk LR E3 E4 hy0 hms HLL
     generalize CL k=cl at *
     generalize sZ (SF k) (ix dN k)=hb at *
     generalize ix dN k=X at *
     generalize ix dN 0=Y at *
     obtain ⟨xe,xk⟩:=X
     obtain ⟨ye,yk⟩:=Y
     simp only [Lg.c] at HLC HLK HY1 HY2 HY0 L1 L2 L3 L4 ae5 HNX
     have F1:=jx (fun h=>(HH.out (by rw [L1.out h];omega)).trans (L1.out h))
     have F2:=jx (fun h h2=>(HH.out (by rw [L2.out h h2];omega)).trans (L2.out h h2))
     have F3:=jx (fun h h2 h3=>(HH.out (by rw [L3.out h h2 h3];omega)).trans (L3.out h h2 h3))
     have F4:=jx (fun h h2 h3=>HN.out (L4.out h h2 h3))
     clear HH HN L1 L2 L3 L4
     have l2:wr.cell? ⟨bl,abC+k*2,none⟩=some (Value.int .i64 xe):=HLC.out wr HB.out
     have l3:wr.cell? ⟨bl,abC+k*2+1,none⟩=some (Value.int .i64 xk):=HLK.out wr HB.out
     go_wp2_with fail
     refine dU (fun W=>bY W w.heap.size #[.slice ae ne xI,dv]∧bY W (w.heap.size+1) #[.bool wn,.string ws,.string wd,.slice (some ⟨bl,abC,none⟩) nl aiR]∧bY W wr.heap.size #[.int .i64 xe,.int .i64 xk]∧Below wr.heap.size wr W) ⟨J0.out.alloc _,J1.out.alloc _,bY.new wr _ _,(Below.refl _ _).alloc jp _⟩ ?_
     rintro W0 ⟨h0,h1,h2,hb0⟩
     have J0:=jx h0
     have J1:=jx h1
     have J2:=jx h2
     have HB:=jx hb0
     clear l2 l3 h0 h1 h2 hb0
     by_cases g1:xe<0
     ·have dg1:decide (xe<0)=true:=decide_eq_true g1
      have HR:=jx (F1.out (.inl g1))
      clear F1 F2 F3 F4 HY0
      have m0:=cell_regrown (show W0.cell? ⟨w.heap.size,0,none⟩=some (Value.slice ae ne xI) from J0.out.cell 0)
      have m1:=cell_regrown (show W0.cell? ⟨w.heap.size,1,none⟩=some (dv) from J0.out.cell 1)
      have m2:=cell_regrown (show W0.cell? ⟨wr.heap.size,0,none⟩=some (Value.int .i64 (xe)) from J2.out.cell 0)
      have m3:=cell_regrown (show W0.cell? ⟨wr.heap.size,1,none⟩=some (Value.int .i64 (xk)) from J2.out.cell 1)
      go_wp2_with fail
      refine bU (by kernel_rfl) (by kernel_rfl) ?_
      repeat (first|go_big_quiet_skip|(refine wpQuiet_step (fun K hK=>?_);go_simp;(try simp (disch:=omega) only [Ed]);(first|(refine hK _ ?_;clear hK K)|(apply Exists.intro;refine ⟨fun _=>?_,hK _ ?_⟩;(fail);clear hK K))))
      clear m0 m1 m2 m3
      refine wpQuiet_nil ?_
      intro W1 bD
      have J0:=jx (J0.out.on bD)
      have J1:=jx (J1.out.on bD)
      have J2:=jx (J2.out.on bD)
      have HB:=jx (chain HB.out bD jp)
      clear bD
      go_wp2
      go_ret
      exact ⟨aW HR.out.symm,HGB.out.trans (iG HB.out),fun h=>absurd (HR.out.symm.trans h) jj⟩
     ·have dg1:decide (xe<0)=false:=decide_eq_false g1
      by_cases g2:(ne:Int)≤xe
      ·have dg2:decide ((ne:Int)≤xe)=true:=decide_eq_true g2
       have HR:=jx (F1.out (.inr (.inl g2)))
       clear F1 F2 F3 F4 HY0
       have m0:=cell_regrown (show W0.cell? ⟨w.heap.size,0,none⟩=some (Value.slice ae ne xI) from J0.out.cell 0)
       have m1:=cell_regrown (show W0.cell? ⟨w.heap.size,1,none⟩=some (dv) from J0.out.cell 1)
       have m2:=cell_regrown (show W0.cell? ⟨wr.heap.size,0,none⟩=some (Value.int .i64 (xe)) from J2.out.cell 0)
       have m3:=cell_regrown (show W0.cell? ⟨wr.heap.size,1,none⟩=some (Value.int .i64 (xk)) from J2.out.cell 1)
       go_wp2_with fail
       refine bU (by kernel_rfl) (by kernel_rfl) ?_
       repeat (first|go_big_quiet_skip|(refine wpQuiet_step (fun K hK=>?_);go_simp;(try simp (disch:=omega) only [Ed]);(first|(refine hK _ ?_;clear hK K)|(apply Exists.intro;refine ⟨fun _=>?_,hK _ ?_⟩;(fail);clear hK K))))
       clear m0 m1 m2 m3
       refine wpQuiet_nil ?_
       intro W1 bD
       have J0:=jx (J0.out.on bD)
       have J1:=jx (J1.out.on bD)
       have J2:=jx (J2.out.on bD)
       have HB:=jx (chain HB.out bD jp)
       clear bD
       go_wp2
       go_ret
       exact ⟨aW HR.out.symm,HGB.out.trans (iG HB.out),fun h=>absurd (HR.out.symm.trans h) jj⟩
      ·have dg2:decide ((ne:Int)≤xe)=false:=decide_eq_false g2
       obtain ⟨i,rfl⟩ : ∃ i:Nat,xe=(i:Int):=Int.eq_ofNat_of_zero_le jb
       have hin:i<ne:=jb
       obtain ⟨be,tu,rfl,-,-,-⟩:=HSE.out.get jb
       obtain ⟨ac,aiS,av,hge⟩:=HQE.out i hin
       have HEC:=jx (fun W (h:Below wr.heap.size wr W)=>HSE.out.cellAt rfl h (i:=i) (j:=3) hin jb)
       rw [hge] at HEC
       have atp:=ar7.out i hin
       clear hge
       generalize hnc:(ix g.e i).c.length=nc at *
       by_cases g3:xk<0
       ·have dg3:decide (xk<0)=true:=decide_eq_true g3
        have HR:=jx (F1.out (.inr (.inr (.inl g3))))
        clear F1 F2 F3 F4 HY0
        have m0:=cell_regrown (show W0.cell? ⟨w.heap.size,0,none⟩=some (Value.slice (some ⟨be,tu,none⟩) ne xI) from J0.out.cell 0)
        have m1:=cell_regrown (show W0.cell? ⟨w.heap.size,1,none⟩=some (dv) from J0.out.cell 1)
        have m2:=cell_regrown (show W0.cell? ⟨wr.heap.size,0,none⟩=some (Value.int .i64 (i:Int)) from J2.out.cell 0)
        have m3:=cell_regrown (show W0.cell? ⟨wr.heap.size,1,none⟩=some (Value.int .i64 (xk)) from J2.out.cell 1)
        have m4:=cell_regrown (show W0.cell? ⟨be,tu+i*5+3,none⟩=some (Value.slice ac nc aiS) from HEC.out W0 HB.out)
        go_wp2_with fail
        refine bU (by kernel_rfl) (by kernel_rfl) ?_
        repeat (first|go_big_quiet_skip|(refine wpQuiet_step (fun K hK=>?_);go_simp;(try simp (disch:=omega) only [Ed]);(first|(refine hK _ ?_;clear hK K)|(apply Exists.intro;refine ⟨fun _=>?_,hK _ ?_⟩;(fail);clear hK K))))
        clear m0 m1 m2 m3 m4
        refine wpQuiet_nil ?_
        intro W1 bD
        have J0:=jx (J0.out.on bD)
        have J1:=jx (J1.out.on bD)
        have J2:=jx (J2.out.on bD)
        have HB:=jx (chain HB.out bD jp)
        clear bD
        go_wp2
        go_ret
        exact ⟨aW HR.out.symm,HGB.out.trans (iG HB.out),fun h=>absurd (HR.out.symm.trans h) jj⟩
       ·have dg3:decide (xk<0)=false:=decide_eq_false g3
        by_cases g4:(nc:Int)≤xk
        ·have dg4:decide ((nc:Int)≤xk)=true:=decide_eq_true g4
         have HR:=jx (F1.out (.inr (.inr (.inr (by rw [Int.toNat_natCast,hnc];exact g4)))))
         clear F1 F2 F3 F4 HY0
         have m0:=cell_regrown (show W0.cell? ⟨w.heap.size,0,none⟩=some (Value.slice (some ⟨be,tu,none⟩) ne xI) from J0.out.cell 0)
         have m1:=cell_regrown (show W0.cell? ⟨w.heap.size,1,none⟩=some (dv) from J0.out.cell 1)
         have m2:=cell_regrown (show W0.cell? ⟨wr.heap.size,0,none⟩=some (Value.int .i64 (i:Int)) from J2.out.cell 0)
         have m3:=cell_regrown (show W0.cell? ⟨wr.heap.size,1,none⟩=some (Value.int .i64 (xk)) from J2.out.cell 1)
         have m4:=cell_regrown (show W0.cell? ⟨be,tu+i*5+3,none⟩=some (Value.slice ac nc aiS) from HEC.out W0 HB.out)
         go_wp2_with fail
         refine bU (by kernel_rfl) (by kernel_rfl) ?_
         repeat (first|go_big_quiet_skip|(refine wpQuiet_step (fun K hK=>?_);go_simp;(try simp (disch:=omega) only [Ed]);(first|(refine hK _ ?_;clear hK K)|(apply Exists.intro;refine ⟨fun _=>?_,hK _ ?_⟩;(fail);clear hK K))))
         clear m0 m1 m2 m3 m4
         refine wpQuiet_nil ?_
         intro W1 bD
         have J0:=jx (J0.out.on bD)
         have J1:=jx (J1.out.on bD)
         have J2:=jx (J2.out.on bD)
         have HB:=jx (chain HB.out bD jp)
         clear bD
         go_wp2
         go_ret
         exact ⟨aW HR.out.symm,HGB.out.trans (iG HB.out),fun h=>absurd (HR.out.symm.trans h) jj⟩
        ·have dg4:decide ((nc:Int)≤xk)=false:=decide_eq_false g4
         obtain ⟨j,rfl⟩ : ∃ j:Nat,xk=(j:Int):=Int.eq_ofNat_of_zero_le jb
         have hjn:j<nc:=jb
         have HNR:=jx (show ¬ ((i:Int)<0∨(ne:Int)≤(i:Int)∨(j:Int)<0∨((ix g.e (i:Int).toNat).c.length:Int)≤(j:Int)) by rw [Int.toNat_natCast,hnc];omega)
         have hy:=HY0.out HNR.out
         obtain ⟨i0,rfl⟩ : ∃ i:Nat,ye=(i:Int):=Int.eq_ofNat_of_zero_le jb
         obtain ⟨j0,rfl⟩ : ∃ i:Nat,yk=(i:Int):=Int.eq_ofNat_of_zero_le jb
         rw [Int.toNat_natCast] at hy
         have ar8:=jx (fun w h=>ae3.out i j w h jb (by rw [hnc];exact hjn))
         have asa:=jx (fun w h=>ae3.out i0 j0 w h jb jb)
         have hh1:holdL g.e ⟨(i:Int),(j:Int)⟩=(ix (ix g.e i).c j).h:=by unfold holdL;simp only [Int.toNat_natCast]
         have hh2:holdL g.e ⟨(i0:Int),(j0:Int)⟩=(ix (ix g.e i0).c j0).h:=by unfold holdL;simp only [Int.toNat_natCast]
         rw [hh1,hh2] at F3 F4
         have wi:=wf64 (a:=(i:Int)) jb jb
         have wj:=wf64 (a:=(j:Int)) jb jb
         have i3:(0:Int)≤(i:Int):=jb
         have i4:(i:Int)<(ne:Int):=jb
         have i5:decide ((i:Int)<0)=false:=decide_eq_false jb
         have i5' : decide ((j:Int)<0)=false:=decide_eq_false jb
         have i6:decide ((ne:Int)≤(i:Int))=false:=by simp;omega
         have i6' : decide (ne≤i)=false:=by simp;omega
         have i7:decide ((nc:Int)≤(j:Int))=false:=by simp;omega
         have i7' : decide (nc≤j)=false:=by simp;omega
         have i8:(0:Int)<(nl:Int):=jb
         have i9:0<nl:=jb
         have ae5:=jx (fun W h=>ae5.out W h wi wj)
         have HNX:=jx (fun W h=>HNX.out W h wi wj)
         clear ae3 hh1 hh2 hy wi wj
         generalize (ix (ix g.e i).c j).h=h1 at *
         generalize (ix (ix g.e i0).c j0).h=h2 at *
         have m0:=cell_regrown (show W0.cell? ⟨w.heap.size,0,none⟩=some (Value.slice (some ⟨be,tu,none⟩) ne xI) from J0.out.cell 0)
         have m1:=cell_regrown (show W0.cell? ⟨w.heap.size,1,none⟩=some (dv) from J0.out.cell 1)
         have m2:=cell_regrown (show W0.cell? ⟨wr.heap.size,0,none⟩=some (Value.int .i64 (i:Int)) from J2.out.cell 0)
         have m3:=cell_regrown (show W0.cell? ⟨wr.heap.size,1,none⟩=some (Value.int .i64 (j:Int)) from J2.out.cell 1)
         have m4:=cell_regrown (show W0.cell? ⟨be,tu+i*5+3,none⟩=some (Value.slice ac nc aiS) from HEC.out W0 HB.out)
         go_wp2_with fail
         refine bU (by kernel_rfl) (by kernel_rfl) ?_
         repeat (first|go_big_quiet_skip|(refine wpQuiet_step (fun K hK=>?_);go_simp;(try simp (disch:=omega) only [Ed]);(first|(refine hK _ ?_;clear hK K)|(apply Exists.intro;refine ⟨fun _=>?_,hK _ ?_⟩;(fail);clear hK K))))
         clear m0 m1 m2 m3 m4
         refine wpQuiet_nil ?_
         intro W1 bD
         have J0:=jx (J0.out.on bD)
         have J1:=jx (J1.out.on bD)
         have J2:=jx (J2.out.on bD)
         have HB:=jx (chain HB.out bD jp)
         clear bD
         have hlk:=ae5.out W1 (HMS.out.on HB.out)
         have q0:W1.cell? ⟨wr.heap.size,0,none⟩=some (Value.int .i64 (i:Int)):=J2.out.cell 0
         have q1:W1.cell? ⟨wr.heap.size,1,none⟩=some (Value.int .i64 (j:Int)):=J2.out.cell 1
         clear ae5
         cases hb
         ·skip
          go_wp2_with fail
          clear hlk q0 q1
          have SS:=jx (fun d9 os9=>ar8.out (Sort.grow (redrawn W1 d9) os9) (HGR.out.on (HB.out.trans (show Below wr.heap.size W1 _ from (below_regrown W1 d9 os9).mono HB.out.size))))
          have HC2:=jx (fun d9 os9=>asa.out (Sort.grow (redrawn W1 d9) os9) (HGR.out.on (HB.out.trans (show Below wr.heap.size W1 _ from (below_regrown W1 d9 os9).mono HB.out.size))))
          have m0:=cell_regrown (show W1.cell? ⟨w.heap.size,0,none⟩=some (Value.slice (some ⟨be,tu,none⟩) ne xI) from J0.out.cell 0)
          have m1:=cell_regrown (show W1.cell? ⟨w.heap.size,1,none⟩=some (dv) from J0.out.cell 1)
          have m2:=cell_regrown (show W1.cell? ⟨wr.heap.size,0,none⟩=some (Value.int .i64 (i:Int)) from J2.out.cell 0)
          have m3:=cell_regrown (show W1.cell? ⟨wr.heap.size,1,none⟩=some (Value.int .i64 (j:Int)) from J2.out.cell 1)
          have m4:=cell_regrown (show W1.cell? ⟨be,tu+i*5+3,none⟩=some (Value.slice ac nc aiS) from HEC.out W1 HB.out)
          have m5:=cell_regrown (show W1.cell? ⟨w.heap.size+1,3,none⟩=some (Value.slice (some ⟨bl,abC,none⟩) nl aiR) from J1.out.cell 3)
          have m6:=cell_regrown (show W1.cell? ⟨bl,abC,none⟩=some (Value.int .i64 (i0:Int)) from HY1.out W1 HB.out)
          have m7:=cell_regrown (show W1.cell? ⟨bl,abC+1,none⟩=some (Value.int .i64 (j0:Int)) from HY2.out W1 HB.out)
          refine bU (by kernel_rfl) (by kernel_rfl) ?_
          repeat (first|go_big_quiet_skip|(refine wpQuiet_step (fun K hK=>?_);go_simp;(try simp (disch:=omega) only [Ed]);(first|(refine hK _ ?_;clear hK K)|(apply Exists.intro;refine ⟨fun _=>?_,hK _ ?_⟩;(first|with_reducible exact Calls.later (SS.out _ _)|with_reducible exact Calls.later (HC2.out _ _));clear hK K))))
          clear m0 m1 m2 m3 m4 m5 m6 m7 SS HC2
          refine wpQuiet_nil ?_
          intro W2 bD
          have J0:=jx (J0.out.on bD)
          have J1:=jx (J1.out.on bD)
          have J2:=jx (J2.out.on bD)
          have HB:=jx (chain HB.out bD jp)
          clear bD
          by_cases gh:h1=h2
          ·subst gh
           have HX:=jx (F4.out HNR.out kc (by first|rfl|trivial))
           clear F1 F2 F3 F4 HY0
           obtain ⟨w9,hmu,aqe,hg9⟩:=HNX.out W2 (HMS.out.on HB.out)
           have q0:W2.cell? ⟨wr.heap.size,0,none⟩=some (Value.int .i64 (i:Int)):=J2.out.cell 0
           have q1:W2.cell? ⟨wr.heap.size,1,none⟩=some (Value.int .i64 (j:Int)):=J2.out.cell 1
           have hz2:=HB.out.size
           have JE0:=jx (J0.out.block (hg9.block w.heap.size jb (by simp;omega)))
           have JE1:=jx (J1.out.block (hg9.block (w.heap.size+1) jb (by simp;omega)))
           have HGE:=jx (HGB.out.trans ((iG HB.out).trans hg9))
           have HM9:=jx aqe
           clear hg9 aqe HNX
           go_wp2
           go_roundw
           case rel=>exact ⟨k+1,by go_num,jb,JE0.out,JE1.out,HGE.out,HM9,HX⟩
           case measure=>simp [intOf];omega
          ·have gh1:(h1 != h2)=true:=by simp [gh]
           have HR:=jx (F3.out HNR.out kc gh)
           clear F1 F2 F3 F4 HY0
           go_wp2
           go_ret
           exact ⟨aW HR.out.symm,HGB.out.trans (iG HB.out),fun h=>absurd (HR.out.symm.trans h) jj⟩
         ·skip
          have HR:=jx (F2.out HNR.out rfl)
          clear F1 F2 F3 F4 HY0
          go_wp2
          go_ret
          exact ⟨aW HR.out.symm,HGB.out.trans (iG HB.out),fun h=>absurd (HR.out.symm.trans h) jj⟩
    ·obtain rfl:k=nl:=jb
     have ar6:decide ((k:Int)<(k:Int))=false:=by simp
     have HR:=jx (E4.out hsk.out)
     have HM9:=jx hms.out
     rw [HLE.out] at HM9
     clear E3 L1 L2 L3 L4 LR hsk hms
     go_wp2
     go_ret
     exact ⟨aW HR.out.symm,HGB.out,fun _=>HM9.out⟩
theorem ae6 {B b:Nat} {w w' : World} (h:w.grownBy w' (some b)) (hb:B≤b) (hB:B≤w.heap.size):Below B w w':=⟨h.os,h.tape,h.output,h.size,fun k hk=>h.block k jb (by simp;omega)⟩
theorem Xr (l:List oV):iM l 0 0=[]:=by unfold iM;simp
theorem Xt {g:gK} {d:Nat} (hd:d<g.d.length) (h:vM g d=0) (h2:(iM g.d d 0).length≤8*d):(iM g.d (d+1) 0).length≤8*(d+1):=by
 have h3 : ¬ 8<(ix g.d d).l.length:=fun h4=>by rw [aeQ h4] at h;cases h
 have:=DC g.d d (ix g.d d).l.length
 rw [J4 hd] at this
 omega
theorem J5 (p:Nat→Prop) (g:gK) (v:Value) (w:World) (hG:Gw w p v g) (hs:vN 134217728 g) (hp : ∀ x,p x→x<w.heap.size) :
  Calls Tryz.prog 27 #[v] w fun x w'=>x = .returned (.int .i64 (qO g))∧Below w.heap.size w w':=by
 have hmm:=@run_makeMap Tryz.prog
 have HGR:=jx hG
 have HPL:=jx hp
 obtain ⟨ev,dv,rfl,hE,hD⟩:=hG
 have HCE:=jx (fun i (hi:i<g.e.length) cv av w (h1:nY w p cv (ix g.e i).c) (h2:y7 w p av (ix g.e i).a)=>(show Calls Tryz.prog 51 #[.agg #[.bool (ix g.e i).m.n,.string (ix g.e i).m.s,.string (ix g.e i).m.d,cv,av]] w (fun x w'=>x = .returned (.int .i64 (lH (ix g.e i)))∧Below w.heap.size w w') from Gx p (ix g.e i) cv av w h1 h2 (hs.e i hi)))
 have HDT:=jx (fun d (hd:d<g.d.length) lv b w (h:Gw w p (.agg #[ev,dv]) g) (hL:yZ w p lv (ix g.d d).l) hp hM hn=>MI p g d (.agg #[ev,dv]) lv b w h hL hd hs hp hM hn)
 have HGW:=jx (fun d (hd:d<g.d.length) h h2=>Xt (g:=g) hd h h2)
 have HL0:=jx (Xr g.d)
 have le:=hs.le
 have ld:=hs.ld
 have HLC:=jx (fun i hi=>(hs.e i hi).lc)
 obtain ⟨GE,hSE,hQE⟩:=hE
 obtain ⟨ae,xI,rfl,-,-⟩:=hSE.form
 obtain ⟨GD,hSD,hQD⟩:=hD
 obtain ⟨ad,MJ,rfl,-,-⟩:=hSD.form
 have HSE:=jx hSE
 have HQE:=jx (fun i hi=>by
  obtain ⟨cv,av,hg,hC,hA⟩:=hQE i hi
  obtain ⟨a2,cap2,rfl,-,-⟩:=hC.plain.form
  obtain ⟨a3,cap3,rfl,-,-⟩:=(show ∃ a3 cap3,av = .slice a3 (ix g.e i).a.length cap3∧True∧True from by obtain ⟨G,hS,-⟩:=hA;obtain ⟨x,y,h,-,-⟩:=hS.form;exact ⟨x,y,h,trivial,trivial⟩)
  exact (⟨a2,cap2,a3,cap3,hg,hC,hA⟩ : ∃ a2 cap2 a3 cap3,GE i=[.bool (ix g.e i).m.n,.string (ix g.e i).m.s,.string (ix g.e i).m.d,.slice a2 (ix g.e i).c.length cap2,.slice a3 (ix g.e i).a.length cap3]∧nY w p (.slice a2 (ix g.e i).c.length cap2) (ix g.e i).c∧y7 w p (.slice a3 (ix g.e i).a.length cap3) (ix g.e i).a))
 have HSD:=jx hSD
 have HQD:=jx (fun i hi=>by
  obtain ⟨lv,hg,hL⟩:=hQD i hi
  obtain ⟨a2,cap2,rfl,-,-⟩:=hL.plain.form
  exact (⟨a2,cap2,hg,hL⟩ : ∃ a2 cap2,GD i=[.bool (ix g.d i).w.n,.string (ix g.d i).w.s,.string (ix g.d i).w.d,.slice a2 (ix g.d i).l.length cap2]∧yZ w p (.slice a2 (ix g.d i).l.length cap2) (ix g.d i).l))
 have E1:=jx (fun h=>am1 (g:=g) h)
 have E2:=jx (fun h=>am2 (g:=g) h)
 have E3:=jx (fun i h h2 h3 h4 h5=>am3 (g:=g) (i:=i) h h2 h3 h4 h5)
 have E4:=jx (fun i k h h2 h3 h4 h5 h6 h7 h8=>am4 (g:=g) (i:=i) (k:=k) h h2 h3 h4 h5 h6 h7 h8)
 have E5:=jx (fun d h h2 h3 h4 h5 h6 h7=>am5 (g:=g) (d:=d) h h2 h3 h4 h5 h6 h7)
 have E6:=jx (fun h h2 h3 h4 h5=>am6 (g:=g) h h2 h3 h4 h5)
 have H1:=jx (fun i k h=>am7 (g:=g) (i:=i) (k:=k) h)
 have H2:=jx (fun i k h=>am8 (g:=g) (i:=i) (k:=k) h)
 have H3:=jx (fun i k h h2=>am9 (g:=g) (i:=i) (k:=k) h h2)
 clear hs hSE hQE hSD hQD hp
 generalize qO g=R at *
 generalize hce:(fun i=>lH (ix g.e i))=CE at *
 have aqf : ∀ i,lH (ix g.e i)=CE i:=fun i=>by rw [← hce]
 simp only [aqf] at HCE E3 E4 E5 E6
 generalize hch:(fun i k=>mF g i k)=CH at *
 have hch' : ∀ i k,mF g i k=CH i k:=fun i k=>by rw [← hch]
 have HFN:=jx (show ∀ i,mD (mF g i) (ix g.e i).c.length=mD (CH i) (ix g.e i).c.length from fun i=>Ag fun k _=>hch' i k)
 simp only [HFN.out] at E4 E5 E6
 simp only [hch'] at E4 H1 H2 H3
 generalize hcd:(fun i=>vM g i)=CD at *
 have aqg : ∀ i,vM g i=CD i:=fun i=>by rw [← hcd]
 simp only [aqg] at HDT HGW E5 E6
 generalize hSf:(fun d=>iM g.d d 0)=SF at *
 have ae4 : ∀ d,iM g.d d 0=SF d:=fun d=>by rw [← hSf]
 simp only [ae4] at HDT HGW HL0
 clear hce aqf hch hch' hcd aqg HFN hSf ae4
 generalize hne:g.e.length=ne at *
 generalize hnd:g.d.length=nd at *
 by_cases g1:8<ne
 ·have HR:=jx (E1.out g1)
  have c1:decide (8<ne)=true:=decide_eq_true g1
  have c1' : decide ((8:Int)<(ne:Int))=true:=by simp;omega
  clear E1 E2 E3 E4 E5 E6 H1 H2 H3
  go_enter Tryz.func27,Tryz.ntmps27
  go_wp2
  go_ret
  exact ⟨aW HR.out.symm,(Below.refl _ _).alloc jp _⟩
 ·have c1:decide (8<ne)=false:=decide_eq_false g1
  have c1' : decide ((8:Int)<(ne:Int))=false:=by simp;omega
  by_cases g2:16<nd
  ·have HR:=jx (E2.out g2)
   have c2:decide (16<nd)=true:=decide_eq_true g2
   have c2' : decide ((16:Int)<(nd:Int))=true:=by simp;omega
   clear E1 E2 E3 E4 E5 E6 H1 H2 H3
   go_enter Tryz.func27,Tryz.ntmps27
   go_wp2
   go_ret
   exact ⟨aW HR.out.symm,(Below.refl _ _).alloc jp _⟩
  ·have c2:decide (16<nd)=false:=decide_eq_false g2
   have c2' : decide ((16:Int)<(nd:Int))=false:=by simp;omega
   have E3:=jx (fun i=>E3.out i jb jb)
   have E4:=jx (fun i k=>E4.out i k jb jb)
   have E5:=jx (fun d=>E5.out d jb jb)
   have E6:=jx (E6.out jb jb)
   clear E1 E2
   go_enter Tryz.func27,Tryz.ntmps27
   go_wp2_with fail
   refine dU (fun W=>bY W w.heap.size #[.slice ae ne xI,.slice ad nd MJ]∧Below w.heap.size w W) ⟨bY.new _ _ _,(Below.refl _ _).alloc jp _⟩ ?_
   rintro W ⟨hb0,hbel⟩
   have J:=jx hb0
   have HB:=jx hbel
   clear hbel hb0
   go_loopw [27] (fun i wr=>∃ k:Nat,i = .int .i64 k∧k≤ne∧bY wr w.heap.size #[.slice ae ne xI,.slice ad nd MJ]∧Below w.heap.size w wr∧Hid (∀ i,i<k→CE i=0)) (fun i _=>ne - (intOf i).toNat)
   case atStart=>exact ⟨0,rfl,jb,J.out,HB.out,fun i hi=>jb⟩
   case round =>
    obtain ⟨k,rfl,hk,K0,hbk,hsk⟩:=hrel
    have hzk:=hbk.size
    have J:=jx K0
    have HB:=jx hbk
    have k0:wr.cell? ⟨w.heap.size,0,none⟩=some (.slice ae ne xI):=K0.cell 0
    clear K0 hbk
    by_cases hlt:k<ne
    ·obtain ⟨be,tu,rfl,-,-,-⟩:=HSE.out.get jb
     obtain ⟨a2,cap2,a3,cap3,hge,hRC,hRA⟩:=HQE.out k hlt
     have HCK:=jx (fun W (h:Below w.heap.size w W)=>HCE.out k hlt _ _ W (hRC.on h) (hRA.on h))
     have HD:=jx (fun j (hj:j<5)=>HSE.out.cellAt rfl HB.out (i:=k) (j:=j) hlt hj)
     rw [hge] at HD
     have q0:=HD.out 0 jb
     rw [Nat.add_zero] at q0
     have q0' : wr.cell? ⟨be,tu+k*5,none⟩=some (.bool (ix g.e k).m.n):=q0
     have q1:wr.cell? ⟨be,tu+k*5+1,none⟩=some (.string (ix g.e k).m.s):=HD.out 1 jb
     have q2:wr.cell? ⟨be,tu+k*5+2,none⟩=some (.string (ix g.e k).m.d):=HD.out 2 jb
     have q3:wr.cell? ⟨be,tu+k*5+3,none⟩=some (.slice a2 (ix g.e k).c.length cap2):=HD.out 3 jb
     have q4:wr.cell? ⟨be,tu+k*5+4,none⟩=some (.slice a3 (ix g.e k).a.length cap3):=HD.out 4 jb
     have HH:=jx (E3.out k hlt hsk.out)
     have HN:=jx (fun h=>nZ (p:=fun i=>CE i=0) hsk.out h)
     have i1:(0:Int)≤(k:Int):=jb
     have i2:(k:Int)<(ne:Int):=jb
     clear q0 HD hge hRC hRA hsk E3 E4 E5 E6 H1 H2 H3 HDT HCE HQE HQD
     generalize CE k=x at *
     generalize (ix g.e k).m.n=mn at *
     generalize (ix g.e k).m.s=ms at *
     generalize (ix g.e k).m.d=md at *
     generalize (ix g.e k).c.length=nc at *
     generalize (ix g.e k).a.length=na at *
     go_wp2_with fail
     refine (HCK.out _ (HB.out.alloc jb _)).mono ?_;rintro e w4 ⟨rfl,hb4⟩
     obtain ⟨-,hbw⟩:=fZ hb4
     have J:=jx (J.out.on hbw)
     have HB:=jx (chain HB.out hbw jp)
     clear hb4 hbw q0' q1 q2 q3 q4 k0
     by_cases hx:x=0
     ·subst hx
      have HX:=jx (HN.out rfl)
      clear HN HH
      go_wp2
      go_roundw
      case rel=>exact ⟨k+1,by go_num,jb,J.out,HB.out,HX.out⟩
      case measure=>simp [intOf];omega
     ·have HR:=jx (HH.out hx)
      have hx2:(x != 0)=true:=by simp [hx]
      have hx3:(x == 0)=false:=by simp [hx]
      clear HN HH
      go_wp2
      go_ret
      exact ⟨aW HR.out.symm,HB.out⟩
    ·obtain rfl:k=ne:=jb
     have hnl:decide ((k:Int)<(k:Int))=false:=by simp
     have E4:=jx (fun i j=>E4.out i j hsk.out)
     have E5:=jx (fun d=>E5.out d hsk.out)
     have E6:=jx (E6.out hsk.out)
     clear E3 hsk HCE
     go_wp2_with fail
     clear k0
     go_loopw [40] (fun i wr=>∃ t:Nat,i = .int .i64 t∧t≤k∧bY wr w.heap.size #[.slice ae k xI,.slice ad nd MJ]∧Below w.heap.size w wr∧Hid (∀ i,i<t→mD (CH i) (ix g.e i).c.length=0)) (fun i _=>k - (intOf i).toNat)
     case atStart=>exact ⟨0,rfl,jb,J.out,HB.out,fun i hi=>jb⟩
     case round =>
      obtain ⟨t,rfl,ht,K0,hbk,hst⟩:=hrel
      have hzt:=hbk.size
      have J:=jx K0
      have HB:=jx hbk
      have k1:wr.cell? ⟨w.heap.size,1,none⟩=some (.slice ad nd MJ):=K0.cell 1
      clear K0 hbk
      by_cases hlt:t<k
      ·obtain ⟨be,tu,rfl,-,-,-⟩:=HSE.out.get jb
       obtain ⟨a2,cap2,a3,cap3,hge,hRC,-⟩:=HQE.out t hlt
       have HD:=jx (fun j (hj:j<5)=>HSE.out.cellAt rfl HB.out (i:=t) (j:=j) hlt hj)
       rw [hge] at HD
       have q0:=HD.out 0 jb
       rw [Nat.add_zero] at q0
       have q0' : wr.cell? ⟨be,tu+t*5,none⟩=some (.bool (ix g.e t).m.n):=q0
       have q1:wr.cell? ⟨be,tu+t*5+1,none⟩=some (.string (ix g.e t).m.s):=HD.out 1 jb
       have q2:wr.cell? ⟨be,tu+t*5+2,none⟩=some (.string (ix g.e t).m.d):=HD.out 2 jb
       have q3:wr.cell? ⟨be,tu+t*5+3,none⟩=some (.slice a2 (ix g.e t).c.length cap2):=HD.out 3 jb
       have q4:wr.cell? ⟨be,tu+t*5+4,none⟩=some (.slice a3 (ix g.e t).a.length cap3):=HD.out 4 jb
       have HP:=jx hRC.plain
       have hlc:=HLC.out t hlt
       have HHT:=jx (fun j=>E4.out t j hlt hst.out)
       have HNT:=jx (fun h=>nZ (p:=fun i=>mD (CH i) (ix g.e i).c.length=0) hst.out h)
       have H1:=jx (H1.out t)
       have H2:=jx (H2.out t)
       have H3:=jx (H3.out t)
       have i1:(0:Int)≤(t:Int):=jb
       have i2:(t:Int)<(k:Int):=jb
       clear q0 HD hge hRC hst E4 E5 E6 HDT HQE HQD k1
       generalize (ix g.e t).m.n=mn at *
       generalize (ix g.e t).m.s=ms at *
       generalize (ix g.e t).m.d=md at *
       generalize (ix g.e t).a.length=na at *
       generalize hnc:(ix g.e t).c.length=nc at *
       generalize hct:(ix g.e t).c=ct at *
       clear hct
       generalize CH t=CT at *
       go_wp2_with fail
       refine dU (fun W=>bY W w.heap.size #[.slice (some ⟨be,tu,none⟩) k xI,.slice ad nd MJ]∧Below w.heap.size w W) ⟨J.out.alloc _,HB.out.alloc jb _⟩ ?_
       rintro W5 ⟨hb0,hbel⟩
       have J:=jx hb0
       have HB:=jx hbel
       clear hbel hb0 q0' q1 q2 q3 q4
       go_loopw [48] (fun i wr=>∃ j:Nat,i = .int .i64 j∧j≤nc∧bY wr w.heap.size #[.slice (some ⟨be,tu,none⟩) k xI,.slice ad nd MJ]∧Below w.heap.size w wr∧Hid (∀ i,i<j→CT i=0)) (fun i _=>nc - (intOf i).toNat)
       case atStart=>exact ⟨0,rfl,jb,J.out,HB.out,fun i hi=>jb⟩
       case round =>
        obtain ⟨j,rfl,hj,K0,hbk,hsj⟩:=hrel
        have hzj:=hbk.size
        have hz0:=K0.lt
        have J:=jx K0
        have HB:=jx hbk
        have k0:wr.cell? ⟨w.heap.size,0,none⟩=some (.slice (some ⟨be,tu,none⟩) k xI):=K0.cell 0
        clear K0 hbk
        by_cases hlj:j<nc
        ·obtain ⟨b2,off2,rfl,-,-,-⟩:=HP.out.get jb
         have HD:=jx (fun l (hl:l<5)=>HP.out.cellAt rfl HB.out (i:=j) (j:=l) hlj hl)
         have d0:=HD.out 0 jb
         rw [Nat.add_zero] at d0
         have e0:wr.cell? ⟨b2,off2+j*5,none⟩=some (Value.int .i64 (ix ct j).h):=d0
         have e1:wr.cell? ⟨b2,off2+j*5+1,none⟩=some (Value.int .i64 (ix ct j).r):=HD.out 1 jb
         have e2:wr.cell? ⟨b2,off2+j*5+2,none⟩=some (Value.bool (ix ct j).a.n):=HD.out 2 jb
         have e3:wr.cell? ⟨b2,off2+j*5+3,none⟩=some (Value.string (ix ct j).a.s):=HD.out 3 jb
         have e4:wr.cell? ⟨b2,off2+j*5+4,none⟩=some (Value.string (ix ct j).a.d):=HD.out 4 jb
         have j1:(0:Int)≤(j:Int):=jb
         have j2:(j:Int)<(nc:Int):=jb
         have HHJ:=jx (HHT.out j hlj hsj.out)
         have HNJ:=jx (fun h=>nZ (p:=fun i=>CT i=0) hsj.out h)
         have H1:=jx (H1.out j)
         have H2:=jx (H2.out j)
         have H3:=jx (H3.out j)
         clear d0 HD hsj HHT HNT
         generalize CT j=x at *
         generalize (ix ct j).h=h at *
         generalize (ix ct j).r=r at *
         generalize (ix ct j).a.n=an at *
         generalize (ix ct j).a.s=as' at *
         generalize (ix ct j).a.d=ad' at *
         by_cases h2:h=(t:Int)
         ·have HR:=jx ((HHJ.out (by rw [H2.out h2];omega)).trans (H2.out h2))
          have dh2:(h == (t:Int))=true:=by simp [h2]
          clear HHJ HNJ H1 H2 H3
          go_wp2
          go_ret
          exact ⟨aW HR.out.symm,HB.out.alloc jb _⟩
         ·have dh2:(h == (t:Int))=false:=by simp [h2]
          by_cases h1:(k:Int)≤h
          ·have dh1:decide ((k:Int)≤h)=true:=decide_eq_true h1
           have HR:=jx ((HHJ.out (by rw [H1.out h1];omega)).trans (H1.out h1))
           clear HHJ HNJ H1 H2 H3
           go_wp2
           go_ret
           exact ⟨aW HR.out.symm,HB.out.alloc jb _⟩
          ·have dh1:decide ((k:Int)≤h)=false:=decide_eq_false h1
           have HX:=jx (HNJ.out (H3.out jb jb))
           have JE:=jx (J.out.alloc (.cells #[.int .i64 h,.int .i64 r,.bool an,.string as',.string ad'] 64))
           clear HHJ HNJ H1 H2 H3
           go_wp2
           go_roundw
           case rel=>exact ⟨j+1,by go_num,jb,JE.out,HB.out.alloc jb _,HX.out⟩
           case measure=>simp [intOf];omega
        ·obtain rfl:j=nc:=jb
         have HZ:=jx (HNT.out (eF hsj.out))
         have hnl:decide ((j:Int)<(j:Int))=false:=by simp
         clear HHT
         go_wp2
         go_roundw
         case rel=>exact ⟨t+1,by go_num,jb,J.out,HB.out,HZ.out⟩
         case measure=>simp [intOf];omega
      ·obtain rfl:t=k:=jb
       have hnl:decide ((t:Int)<(t:Int))=false:=by simp
       have E5:=jx (fun d=>E5.out d hst.out)
       have E6:=jx (E6.out hst.out)
       have asb : ∃ mb,mb=wr.heap.size:=⟨_,rfl⟩
       obtain ⟨mb,hmb⟩:=asb
       have hz0:=J.out.lt
       have k1:(wr.alloc (.map #[] 0)).cell? ⟨w.heap.size,1,none⟩=some (.slice ad nd MJ):=(J.out.alloc (.map #[] 0)).cell 1
       clear E4 hst H1 H2 H3 HQE
       go_wp2_with fail
       clear k1
       rw [← hmb]
       refine dU (fun W=>bY W w.heap.size #[.slice ae t xI,.slice ad nd MJ]∧Below w.heap.size w W∧oW W mb []) ⟨J.out.alloc _,HB.out.alloc jb _,by rw [hmb];exact oW.made wr⟩ ?_
       rintro W5 ⟨hb0,hbel,hms⟩
       have J:=jx hb0
       have HB:=jx hbel
       have aiT:w.heap.size<mb:=jb
       clear hbel hb0 hz0 hmb
       go_loopw [70] (fun i wr=>∃ d:Nat,i = .int .i64 d∧d≤nd∧bY wr w.heap.size #[.slice ae t xI,.slice ad nd MJ]∧Below w.heap.size w wr∧Hid (oW wr mb (SF d))∧Hid ((SF d).length≤8*d)∧Hid (∀ i,i<d→CD i=0)) (fun i _=>nd - (intOf i).toNat)
       case atStart=>exact ⟨0,rfl,jb,J.out,HB.out,by rw [HL0.out];exact hms,by rw [HL0.out];exact jp,fun i hi=>jb⟩
       case round =>
        obtain ⟨d,rfl,hd,K0,hbk,hms,hln,hsd⟩:=hrel
        have hzd:=hbk.size
        have J:=jx K0
        have HB:=jx hbk
        have k0:wr.cell? ⟨w.heap.size,0,none⟩=some (.slice ae t xI):=K0.cell 0
        have k1:wr.cell? ⟨w.heap.size,1,none⟩=some (.slice ad nd MJ):=K0.cell 1
        have hz0:=K0.lt
        clear K0 hbk
        by_cases hlt:d<nd
        ·obtain ⟨bd,aiU,rfl,-,-,-⟩:=HSD.out.get jb
         obtain ⟨a2,cap2,hge,hRL⟩:=HQD.out d hlt
         have HDK:=jx (fun W (h:Below w.heap.size w W) (h2:Below wr.heap.size wr W)=>HDT.out d hlt _ mb W (HGR.out.on h) (hRL.on h) (fun x hx=>by have:=HPL.out x hx;omega) (hms.out.on h2) (by have:=hln.out;omega))
         have HD:=jx (fun j (hj:j<4)=>HSD.out.cellAt rfl HB.out (i:=d) (j:=j) hlt hj)
         rw [hge] at HD
         have q0:=HD.out 0 jb
         rw [Nat.add_zero] at q0
         have q0' : wr.cell? ⟨bd,aiU+d*4,none⟩=some (.bool (ix g.d d).w.n):=q0
         have q1:wr.cell? ⟨bd,aiU+d*4+1,none⟩=some (.string (ix g.d d).w.s):=HD.out 1 jb
         have q2:wr.cell? ⟨bd,aiU+d*4+2,none⟩=some (.string (ix g.d d).w.d):=HD.out 2 jb
         have q3:wr.cell? ⟨bd,aiU+d*4+3,none⟩=some (.slice a2 (ix g.d d).l.length cap2):=HD.out 3 jb
         have HH:=jx (E5.out d hlt hsd.out)
         have HN:=jx (fun h=>nZ (p:=fun i=>CD i=0) hsd.out h)
         have HGW:=jx (fun h=>HGW.out d hlt h hln.out)
         have i1:(0:Int)≤(d:Int):=jb
         have i2:(d:Int)<(nd:Int):=jb
         clear q0 HD hge hRL hsd E5 E6 HDT HQD hms hln
         generalize CD d=x at *
         generalize (ix g.d d).w.n=wn at *
         generalize (ix g.d d).w.s=ws at *
         generalize (ix g.d d).w.d=wd at *
         generalize (ix g.d d).l.length=nl at *
         go_wp2_with fail
         refine (HDK.out _ (HB.out.alloc jb _) ((Below.refl _ _).alloc jp _)).mono ?_;rintro e w4 ⟨rfl,hg4,hm4⟩
         have hw4:w.heap.size<(wr.alloc (.cells #[.bool wn,.string ws,.string wd,.slice a2 nl cap2] 99)).heap.size:=by rw [World.size_alloc];omega
         have J:=jx ((J.out.alloc _).block (hg4.block w.heap.size hw4 (by simp;omega)))
         have HB:=jx ((HB.out.alloc jb _).trans (ae6 hg4 jb (Nat.le_of_lt hw4)))
         have HM:=jx hm4
         clear hg4 hm4 q0' q1 q2 q3 k0 k1
         by_cases hx:x=0
         ·subst hx
          have HX:=jx (HN.out rfl)
          have HM2:=jx (HM.out rfl)
          have asc:=jx (HGW.out rfl)
          clear HN HH HM HGW
          go_wp2
          go_roundw
          case rel=>exact ⟨d+1,by go_num,jb,J.out,HB.out,HM2,asc,HX⟩
          case measure=>simp [intOf];omega
         ·have HR:=jx (HH.out hx)
          have hx2:(x != 0)=true:=by simp [hx]
          have hx3:(x == 0)=false:=by simp [hx]
          clear HN HH HM
          go_wp2
          go_ret
          exact ⟨aW HR.out.symm,HB.out⟩
        ·obtain rfl:d=nd:=jb
         have HR:=jx (E6.out hsd.out)
         have hnl:decide ((d:Int)<(d:Int))=false:=by simp
         go_wp2
         go_ret
         exact ⟨aW HR.out.symm,HB.out⟩
end Go.Proofs.Ins
