/- The walk of liquidation.Worse. -/
import Derived.Test.YtiaefgffeekfkaaGreatDoorY27
import Derived.Deep.Upon
import Derived.Lib.AppendZerosOnto
import Derived.Lib.AppendZeros
import Derived.Shelf.Sort.Plain
import Derived.Shelf.Slices.CompactI
import Derived.Shelf.Slices.In.SortNone
set_option linter.unusedSimpArgs false
set_option linter.unusedVariables false
set_option maxHeartbeats 8000000
namespace Go.Proofs.Ins
open Go.RowKit
theorem chkG_1 {g:Grp} (h:8<g.e.length):chkG g=2:=by unfold chkG;rw [if_pos (.inl h)]
theorem chkG_2 {g:Grp} (h:16<g.d.length):chkG g=2:=by unfold chkG;rw [if_pos (.inr h)]
theorem chkG_3 {g:Grp} {i:Nat} (h : ¬ 8<g.e.length) (h2 : ¬ 16<g.d.length) (hi:i<g.e.length) (h3 : ∀ k,k<i→chkE (ix g.e k)=0) (h4:chkE (ix g.e i)≠0):chkG g=chkE (ix g.e i):=by
 have:=fnz_hit (f:=fun i=>chkE (ix g.e i)) h3 h4 hi
 unfold chkG;rw [if_neg (by omega),if_pos (by rw [this];exact h4),this]
theorem chkG_4 {g:Grp} {i k:Nat} (h : ¬ 8<g.e.length) (h2 : ¬ 16<g.d.length) (h3 : ∀ k,k<g.e.length→chkE (ix g.e k)=0) (hi:i<g.e.length) (h4 : ∀ j,j<i→fnz (chkH g j) (ix g.e j).c.length=0) (hk:k<(ix g.e i).c.length) (h5 : ∀ j,j<k→chkH g i j=0) (h6:chkH g i k≠0):chkG g=chkH g i k:=by
 have e1:=fnz_hit (f:=chkH g i) h5 h6 hk
 have e2:=fnz_hit (f:=fun i=>fnz (chkH g i) (ix g.e i).c.length) h4 (by rw [e1];exact h6) hi
 unfold chkG;rw [if_neg (by omega),if_neg (by rw [fnz_none (f:=fun i=>chkE (ix g.e i)) h3];simp),if_pos (by rw [e2,e1];exact h6),e2,e1]
theorem chkG_5 {g:Grp} {d:Nat} (h : ¬ 8<g.e.length) (h2 : ¬ 16<g.d.length) (h3 : ∀ k,k<g.e.length→chkE (ix g.e k)=0) (h4 : ∀ j,j<g.e.length→fnz (chkH g j) (ix g.e j).c.length=0) (hd:d<g.d.length) (h5 : ∀ k,k<d→chkD g k=0) (h6:chkD g d≠0):chkG g=chkD g d:=by
 unfold chkG;rw [if_neg (by omega),if_neg (by rw [fnz_none (f:=fun i=>chkE (ix g.e i)) h3];simp),if_neg (by rw [fnz_none (f:=fun i=>fnz (chkH g i) (ix g.e i).c.length) h4];simp),fnz_hit h5 h6 hd]
theorem chkG_6 {g:Grp} (h : ¬ 8<g.e.length) (h2 : ¬ 16<g.d.length) (h3 : ∀ k,k<g.e.length→chkE (ix g.e k)=0) (h4 : ∀ j,j<g.e.length→fnz (chkH g j) (ix g.e j).c.length=0) (h5 : ∀ k,k<g.d.length→chkD g k=0):chkG g=0:=by
 unfold chkG;rw [if_neg (by omega),if_neg (by rw [fnz_none (f:=fun i=>chkE (ix g.e i)) h3];simp),if_neg (by rw [fnz_none (f:=fun i=>fnz (chkH g i) (ix g.e i).c.length) h4];simp),fnz_none h5]
theorem chkH_1 {g:Grp} {i k:Nat} (h:(g.e.length:Int)≤(ix (ix g.e i).c k).h):chkH g i k=19:=by unfold chkH;rw [if_pos (.inl h)]
theorem chkH_2 {g:Grp} {i k:Nat} (h:(ix (ix g.e i).c k).h=(i:Int)):chkH g i k=19:=by unfold chkH;rw [if_pos (.inr h)]
theorem chkH_3 {g:Grp} {i k:Nat} (h : ¬ (g.e.length:Int)≤(ix (ix g.e i).c k).h) (h2 : ¬ (ix (ix g.e i).c k).h=(i:Int)):chkH g i k=0:=by unfold chkH;rw [if_neg (by rintro (h3|h3);exact h h3;exact h2 h3)]
set_option maxRecDepth 100000 in
theorem rcheckgroup_any (p:Nat→Prop) (g:Grp) (v:Value) (w:World) (hG:RGrp w p v g) (hs:SmallG 134217728 g) :
  Calls Tryz.prog 43 #[v] w fun x w'=>x = .returned (.int .i64 (chkG g))∧Below w.heap.size w w':=by
 have HGR:=Lib.hid hG
 obtain ⟨ev,dv,rfl,hE,hD⟩:=hG
 have HCE:=Lib.hid (fun i (hi:i<g.e.length) cv av w (h1:RClaims w p cv (ix g.e i).c) (h2:RAgrs w p av (ix g.e i).a)=>(show Calls Tryz.prog 79 #[.agg #[.bool (ix g.e i).m.n,.string (ix g.e i).m.s,.string (ix g.e i).m.d,cv,av]] w (fun x w'=>x = .returned (.int .i64 (chkE (ix g.e i)))∧Below w.heap.size w w') from rcheckestate_any p (ix g.e i) cv av w h1 h2 (hs.e i hi)))
 have HDT:=Lib.hid (fun d (hd:d<g.d.length) w (h:RGrp w p (.agg #[ev,dv]) g)=>debt_any p g d (.agg #[ev,dv]) w h hd hs)
 have le:=hs.le
 have ld:=hs.ld
 have HLC:=Lib.hid (fun i hi=>(hs.e i hi).lc)
 obtain ⟨GE,hSE,hQE⟩:=hE
 obtain ⟨ae,cape,rfl,-,-⟩:=hSE.form
 obtain ⟨ad,capd,rfl,-,-⟩:=(show ∃ ad capd,dv = .slice ad g.d.length capd∧True∧True from by obtain ⟨GD,hSD,-⟩:=hD;obtain ⟨x,y,h,-,-⟩:=hSD.form;exact ⟨x,y,h,trivial,trivial⟩)
 have HSE:=Lib.hid hSE
 have HQE:=Lib.hid hQE
 have E1:=Lib.hid (fun h=>chkG_1 (g:=g) h)
 have E2:=Lib.hid (fun h=>chkG_2 (g:=g) h)
 have E3:=Lib.hid (fun i h h2 h3 h4 h5=>chkG_3 (g:=g) (i:=i) h h2 h3 h4 h5)
 have E4:=Lib.hid (fun i k h h2 h3 h4 h5 h6 h7 h8=>chkG_4 (g:=g) (i:=i) (k:=k) h h2 h3 h4 h5 h6 h7 h8)
 have E5:=Lib.hid (fun d h h2 h3 h4 h5 h6 h7=>chkG_5 (g:=g) (d:=d) h h2 h3 h4 h5 h6 h7)
 have E6:=Lib.hid (fun h h2 h3 h4 h5=>chkG_6 (g:=g) h h2 h3 h4 h5)
 have H1:=Lib.hid (fun i k h=>chkH_1 (g:=g) (i:=i) (k:=k) h)
 have H2:=Lib.hid (fun i k h=>chkH_2 (g:=g) (i:=i) (k:=k) h)
 have H3:=Lib.hid (fun i k h h2=>chkH_3 (g:=g) (i:=i) (k:=k) h h2)
 clear hs hSE hQE hD
 generalize chkG g=R at *
 generalize hce:(fun i=>chkE (ix g.e i))=CE at *
 have hce' : ∀ i,chkE (ix g.e i)=CE i:=fun i=>by rw [← hce]
 simp only [hce'] at HCE E3 E4 E5 E6
 generalize hch:(fun i k=>chkH g i k)=CH at *
 have hch' : ∀ i k,chkH g i k=CH i k:=fun i k=>by rw [← hch]
 have HFN:=Lib.hid (show ∀ i,fnz (chkH g i) (ix g.e i).c.length=fnz (CH i) (ix g.e i).c.length from fun i=>fnz_congr fun k _=>hch' i k)
 simp only [HFN.out] at E4 E5 E6
 simp only [hch'] at E4 H1 H2 H3
 generalize hcd:(fun i=>chkD g i)=CD at *
 have hcd' : ∀ i,chkD g i=CD i:=fun i=>by rw [← hcd]
 simp only [hcd'] at HDT E5 E6
 clear hce hce' hch hch' hcd hcd' HFN
 generalize hne:g.e.length=ne at *
 generalize hnd:g.d.length=nd at *
 by_cases g1:8<ne
 ·have HR:=Lib.hid (E1.out g1)
  have c1:decide (8<ne)=true:=decide_eq_true g1
  have c1' : decide ((8:Int)<(ne:Int))=true:=by simp;omega
  clear E1 E2 E3 E4 E5 E6 H1 H2 H3
  go_enter Tryz.func43,Tryz.ntmps43
  go_wp2
  go_ret
  exact ⟨ret_int HR.out.symm,(Below.refl _ _).alloc (Nat.le_refl _) _⟩
 ·have c1:decide (8<ne)=false:=decide_eq_false g1
  have c1' : decide ((8:Int)<(ne:Int))=false:=by simp;omega
  by_cases g2:16<nd
  ·have HR:=Lib.hid (E2.out g2)
   have c2:decide (16<nd)=true:=decide_eq_true g2
   have c2' : decide ((16:Int)<(nd:Int))=true:=by simp;omega
   clear E1 E2 E3 E4 E5 E6 H1 H2 H3
   go_enter Tryz.func43,Tryz.ntmps43
   go_wp2
   go_ret
   exact ⟨ret_int HR.out.symm,(Below.refl _ _).alloc (Nat.le_refl _) _⟩
  ·have c2:decide (16<nd)=false:=decide_eq_false g2
   have c2' : decide ((16:Int)<(nd:Int))=false:=by simp;omega
   have E3:=Lib.hid (fun i=>E3.out i (by omega) (by omega))
   have E4:=Lib.hid (fun i k=>E4.out i k (by omega) (by omega))
   have E5:=Lib.hid (fun d=>E5.out d (by omega) (by omega))
   have E6:=Lib.hid (E6.out (by omega) (by omega))
   clear E1 E2
   go_enter Tryz.func43,Tryz.ntmps43
   go_wp2_with fail
   refine wp_forget (fun W=>Blk W w.heap.size #[.slice ae ne cape,.slice ad nd capd]∧Below w.heap.size w W) ⟨Blk.new _ _ _,(Below.refl _ _).alloc (Nat.le_refl _) _⟩ ?_
   rintro W ⟨hb0,hbel⟩
   have J:=Lib.hid hb0
   have HB:=Lib.hid hbel
   clear hbel hb0
   go_loopw [3,4] (fun i _ wr=>∃ k:Nat,i = .int .i64 k∧k≤ne∧Blk wr w.heap.size #[.slice ae ne cape,.slice ad nd capd]∧Below w.heap.size w wr∧Hid (∀ i,i<k→CE i=0)) (fun i _ _=>ne - (intOf i).toNat)
   case atStart=>exact ⟨0,rfl,by omega,J.out,HB.out,fun i hi=>by omega⟩
   case round =>
    obtain ⟨k,rfl,hk,K0,hbk,hsk⟩:=hrel
    have J:=Lib.hid K0
    have HB:=Lib.hid hbk
    have k0:wr.cell? ⟨w.heap.size,0,none⟩=some (.slice ae ne cape):=K0.cell 0
    clear K0 hbk
    by_cases hlt:k<ne
    ·obtain ⟨be,offe,rfl,-,-,-⟩:=HSE.out.get (by omega)
     obtain ⟨cv,av,hge,hRC,hRA⟩:=HQE.out k hlt
     have HCK:=Lib.hid (HCE.out k hlt cv av _ (hRC.on HB.out) (hRA.on HB.out))
     have HD:=Lib.hid (fun j (hj:j<5)=>HSE.out.cellAt rfl HB.out (i:=k) (j:=j) hlt hj)
     rw [hge] at HD
     have q0:=HD.out 0 (by omega)
     rw [Nat.add_zero] at q0
     have q0' : wr.cell? ⟨be,offe+k*5,none⟩=some (.bool (ix g.e k).m.n):=q0
     have q1:wr.cell? ⟨be,offe+k*5+1,none⟩=some (.string (ix g.e k).m.s):=HD.out 1 (by omega)
     have q2:wr.cell? ⟨be,offe+k*5+2,none⟩=some (.string (ix g.e k).m.d):=HD.out 2 (by omega)
     have q3:wr.cell? ⟨be,offe+k*5+3,none⟩=some cv:=HD.out 3 (by omega)
     have q4:wr.cell? ⟨be,offe+k*5+4,none⟩=some av:=HD.out 4 (by omega)
     have HH:=Lib.hid (E3.out k hlt hsk.out)
     have HN:=Lib.hid (fun h=>all_next (p:=fun i=>CE i=0) hsk.out h)
     have i1:(0:Int)≤(k:Int):=by omega
     have i2:(k:Int)<(ne:Int):=by omega
     clear q0 HD hge hRC hRA hsk E3 E4 E5 E6 H1 H2 H3 HDT HCE
     generalize CE k=x at *
     generalize (ix g.e k).m.n=mn at *
     generalize (ix g.e k).m.s=ms at *
     generalize (ix g.e k).m.d=md at *
     go_wp2_with fail
     refine HCK.out.mono ?_;rintro e w4 ⟨rfl,hb4⟩
     have J:=Lib.hid (J.out.on hb4)
     have HB:=Lib.hid (chain HB.out hb4 (Nat.le_refl _))
     clear hb4 q0' q1 q2 q3 q4 k0
     by_cases hx:x=0
     ·subst hx
      have HX:=Lib.hid (HN.out rfl)
      clear HN HH
      go_wp2
      go_roundw
      case rel=>exact ⟨k+1,by go_num,by omega,J.out,HB.out,HX.out⟩
      case measure=>simp [intOf];omega
     ·have HR:=Lib.hid (HH.out hx)
      have hx2:(x != 0)=true:=by simp [hx]
      have hx3:(x == 0)=false:=by simp [hx]
      clear HN HH
      go_wp2
      go_ret
      exact ⟨ret_int HR.out.symm,HB.out⟩
    ·obtain rfl:k=ne:=by omega
     have hnl:decide ((k:Int)<(k:Int))=false:=by simp
     have E4:=Lib.hid (fun i j=>E4.out i j hsk.out)
     have E5:=Lib.hid (fun d=>E5.out d hsk.out)
     have E6:=Lib.hid (E6.out hsk.out)
     clear E3 hsk HCE
     go_wp2_with fail
     go_loopw [5,6,7] (fun i _ _ wr2=>∃ t:Nat,i = .int .i64 t∧t≤k∧wr2=wr∧Hid (∀ i,i<t→fnz (CH i) (ix g.e i).c.length=0)) (fun i _ _ _=>k - (intOf i).toNat)
     case atStart=>exact ⟨0,rfl,by omega,rfl,fun i hi=>by omega⟩
     case round =>
      obtain ⟨t,rfl,ht,rfl,hst⟩:=hrel
      by_cases hlt:t<k
      ·obtain ⟨be,offe,rfl,-,-,-⟩:=HSE.out.get (by omega)
       obtain ⟨cv,av,hge,hRC,-⟩:=HQE.out t hlt
       obtain ⟨ac,capc,rfl,-,-⟩:=hRC.plain.form
       have q3:=HSE.out.cellAt rfl HB.out (i:=t) (j:=3) hlt (by omega)
       rw [hge] at q3
       have q3' : wr.cell? ⟨be,offe+t*5+3,none⟩=some (Value.slice ac (ix g.e t).c.length capc):=q3
       have HP:=Lib.hid hRC.plain
       have hlc:=HLC.out t hlt
       have HHT:=Lib.hid (fun j=>E4.out t j hlt hst.out)
       have HNT:=Lib.hid (fun h=>all_next (p:=fun i=>fnz (CH i) (ix g.e i).c.length=0) hst.out h)
       have H1:=Lib.hid (H1.out t)
       have H2:=Lib.hid (H2.out t)
       have H3:=Lib.hid (H3.out t)
       have i1:(0:Int)≤(t:Int):=by omega
       have i2:(t:Int)<(k:Int):=by omega
       clear q3 hge hRC hst E4 E5 E6 HDT
       generalize hnc:(ix g.e t).c.length=nc at *
       generalize hct:(ix g.e t).c=ct at *
       clear hct
       generalize CH t=CT at *
       go_wp2_with fail
       go_loopw [6,7] (fun i _ wr2=>∃ j:Nat,i = .int .i64 j∧j≤nc∧wr2=wr∧Hid (∀ i,i<j→CT i=0)) (fun i _ _=>nc - (intOf i).toNat)
       case atStart=>exact ⟨0,rfl,by omega,rfl,fun i hi=>by omega⟩
       case round =>
        obtain ⟨j,rfl,hj,rfl,hsj⟩:=hrel
        by_cases hlj:j<nc
        ·obtain ⟨b2,off2,rfl,-,-,-⟩:=HP.out.get (by omega)
         have d0:=HP.out.cellAt rfl HB.out (i:=j) (j:=0) hlj (by omega)
         rw [Nat.add_zero] at d0
         have d1:=(show _=some (Value.int .i64 (ix ct j).h) from d0)
         have j1:(0:Int)≤(j:Int):=by omega
         have j2:(j:Int)<(nc:Int):=by omega
         have HHJ:=Lib.hid (HHT.out j hlj hsj.out)
         have HNJ:=Lib.hid (fun h=>all_next (p:=fun i=>CT i=0) hsj.out h)
         have H1:=Lib.hid (H1.out j)
         have H2:=Lib.hid (H2.out j)
         have H3:=Lib.hid (H3.out j)
         clear d0 hsj HHT HNT
         generalize CT j=x at *
         generalize (ix ct j).h=h at *
         by_cases h1:(k:Int)≤h
         ·have dh1:decide ((k:Int)≤h)=true:=decide_eq_true h1
          have HR:=Lib.hid ((HHJ.out (by rw [H1.out h1];omega)).trans (H1.out h1))
          clear HHJ HNJ H1 H2 H3
          go_wp2
          go_ret
          exact ⟨ret_int HR.out.symm,HB.out⟩
         ·have dh1:decide ((k:Int)≤h)=false:=decide_eq_false h1
          by_cases h2:h=(t:Int)
          ·have HR:=Lib.hid ((HHJ.out (by rw [H2.out h2];omega)).trans (H2.out h2))
           have dh2:(h == (t:Int))=true:=by simp [h2]
           clear HHJ HNJ H1 H2 H3
           go_wp2
           go_ret
           exact ⟨ret_int HR.out.symm,HB.out⟩
          ·have HX:=Lib.hid (HNJ.out (H3.out (by omega) (by omega)))
           have dh2:(h == (t:Int))=false:=by simp [h2]
           clear HHJ HNJ H1 H2 H3
           go_wp2
           go_roundw
           case rel=>exact ⟨j+1,by go_num,by omega,by simp,HX.out⟩
           case measure=>simp [intOf];omega
        ·obtain rfl:j=nc:=by omega
         have HZ:=Lib.hid (HNT.out (fnz_none hsj.out))
         have hnl:decide ((j:Int)<(j:Int))=false:=by simp
         clear HHT
         go_wp2
         go_roundw
         case rel=>exact ⟨t+1,by go_num,by omega,by simp,HZ.out⟩
         case measure=>simp [intOf];omega
      ·obtain rfl:t=k:=by omega
       have hnl:decide ((t:Int)<(t:Int))=false:=by simp
       have E5:=Lib.hid (fun d=>E5.out d hst.out)
       have E6:=Lib.hid (E6.out hst.out)
       clear E4 hst H1 H2 H3
       go_wp2_with fail
       go_loopw [8,9] (fun i _ wr=>∃ d:Nat,i = .int .i64 d∧d≤nd∧Blk wr w.heap.size #[.slice ae t cape,.slice ad nd capd]∧Below w.heap.size w wr∧Hid (∀ i,i<d→CD i=0)) (fun i _ _=>nd - (intOf i).toNat)
       case atStart=>exact ⟨0,rfl,by omega,J.out,HB.out,fun i hi=>by omega⟩
       case round =>
        obtain ⟨d,rfl,hd,K0,hbk,hsd⟩:=hrel
        have J:=Lib.hid K0
        have HB:=Lib.hid hbk
        have k0:wr.cell? ⟨w.heap.size,0,none⟩=some (.slice ae t cape):=K0.cell 0
        have k1:wr.cell? ⟨w.heap.size,1,none⟩=some (.slice ad nd capd):=K0.cell 1
        clear K0 hbk
        by_cases hlt:d<nd
        ·have HDK:=Lib.hid (HDT.out d hlt _ (HGR.out.on HB.out))
         have HH:=Lib.hid (E5.out d hlt hsd.out)
         have HN:=Lib.hid (fun h=>all_next (p:=fun i=>CD i=0) hsd.out h)
         have i1:(0:Int)≤(d:Int):=by omega
         have i2:(d:Int)<(nd:Int):=by omega
         clear hsd E5 E6 HDT
         generalize CD d=x at *
         go_wp2_with fail
         refine HDK.out.mono ?_;rintro e w4 ⟨rfl,hb4⟩
         have J:=Lib.hid (J.out.on hb4)
         have HB:=Lib.hid (chain HB.out hb4 (Nat.le_refl _))
         clear hb4 k0 k1
         by_cases hx:x=0
         ·subst hx
          have HX:=Lib.hid (HN.out rfl)
          clear HN HH
          go_wp2
          go_roundw
          case rel=>exact ⟨d+1,by go_num,by omega,J.out,HB.out,HX.out⟩
          case measure=>simp [intOf];omega
         ·have HR:=Lib.hid (HH.out hx)
          have hx2:(x != 0)=true:=by simp [hx]
          have hx3:(x == 0)=false:=by simp [hx]
          clear HN HH
          go_wp2
          go_ret
          exact ⟨ret_int HR.out.symm,HB.out⟩
        ·obtain rfl:d=nd:=by omega
         have HR:=Lib.hid (E6.out hsd.out)
         have hnl:decide ((d:Int)<(d:Int))=false:=by simp
         go_wp2
         go_ret
         exact ⟨ret_int HR.out.symm,HB.out⟩
def lngT (t:Tier):Bool:=decide (24<t.length)
set_option maxRecDepth 100000 in
theorem checkagr1_any (a:Option Addr) (n cap:Nat) (w:World):Calls Tryz.prog 182 #[.slice a n cap] w fun e w'=>e = .returned (.bool (decide (24<n)))∧Below w.heap.size w w':=by
 by_cases h:24<n
 ·have h1:decide (24<n)=true:=decide_eq_true h
  have h2:decide ((24:Int)<(n:Int))=true:=by simp;omega
  go_enter Tryz.func182,Tryz.ntmps182
  go_wp2
  go_ret
  exact ⟨ret_bool (by rw [h1]),Below.refl _ _⟩
 ·have h1:decide (24<n)=false:=decide_eq_false h
  have h2:decide ((24:Int)<(n:Int))=false:=by simp;omega
  go_enter Tryz.func182,Tryz.ntmps182
  go_wp2
  go_ret
  exact ⟨ret_bool (by rw [h1]),Below.refl _ _⟩
set_option maxRecDepth 100000 in
theorem index_tier (p:Nat→Prop) (v:Value) (a:Agr) (w:World) (hA:RTiers w p v a) (la:a.length≤140737488351232) :
  Calls Tryz.prog 189 #[v,.func (.func 182) #[] #[]] w (RetIx w (anyB (fun i=>lngT (ix a i)) a.length)):=by
 obtain ⟨G,hS,hQ⟩:=hA
 obtain ⟨aa,cap,rfl,-,-⟩:=hS.form
 have HS:=Lib.hid hS
 have HQ:=Lib.hid hQ
 have HE:=Lib.hid (fun h2=>anyB_false (n:=a.length) (p:=fun i=>lngT (ix a i)) h2)
 have HX:=Lib.hid (fun i hi h=>anyB_true (n:=a.length) (i:=i) (p:=fun i=>lngT (ix a i)) hi h)
 clear hS hQ
 generalize hn:a.length=n at *
 go_enter Tryz.func189,Tryz.ntmps189
 go_wp2
 go_loopw [8] (fun i wr=>∃ k:Nat,i = .int .i64 k∧k≤n∧Hid (∀ i,i<k→lngT (ix a i)=false)∧Below w.heap.size w wr) (fun i _=>n - (intOf i).toNat)
 case atStart=>exact ⟨0,rfl,by omega,fun i hi=>by omega,Below.refl _ _⟩
 case round =>
  obtain ⟨k,rfl,hk,hs,hbel⟩:=hrel
  by_cases hlt:k<n
  ·obtain ⟨b,off,rfl,-,-,-⟩:=HS.out.get (by omega)
   have c0:=HS.out.cellAt rfl hbel (i:=k) (j:=0) hlt (by omega)
   obtain ⟨v2,hG,hR⟩:=HQ.out k hlt
   obtain ⟨a2,cap2,rfl,-,-⟩:=hR.plain.form
   rw [hG,Nat.mul_one,Nat.add_zero] at c0
   have c1:wr.cell? ⟨b,off+k,none⟩=some (.slice a2 (ix a k).length cap2):=c0
   have HC:=Lib.hid (fun w=>checkagr1_any a2 (ix a k).length cap2 w)
   have HB:=Lib.hid hbel
   have hsz:=hbel.size
   have HXK:=Lib.hid (HX.out k hlt)
   have HSN:=Lib.hid (fun h=>all_next (p:=fun i=>lngT (ix a i)=false) hs.out h)
   have e1:lngT (ix a k)=decide (24<(ix a k).length):=rfl
   rw [e1] at HXK HSN
   generalize decide (24<(ix a k).length)=sb at *
   have HK:=Lib.hid (show decide (0≤(k:Int))=true by simp)
   have i1:(0:Int)≤(k:Int):=by omega
   have i2:(k:Int)<(n:Int):=by omega
   clear c0 hG hR hbel e1 hs
   go_wp2_with fail
   refine (HC.out _).mono ?_;rintro e w3 ⟨rfl,hb3⟩
   have HB3:=Lib.hid (chain HB.out hb3 (Nat.le_refl _))
   clear hb3
   cases sb
   ·go_wp2
    go_roundw
    case rel=>exact ⟨k+1,by go_num,by omega,HSN.out (by first|rfl|trivial),HB3.out⟩
    case measure=>simp [intOf];omega
   ·go_wp2
    go_ret
    exact ⟨_,rfl,by rw [HXK.out (by first|rfl|trivial)];exact HK.out,HB3.out⟩
  ·obtain rfl:k=n:=by omega
   have HF:=Lib.hid (HE.out hs.out)
   clear HX HE
   have hnl:decide ((k:Int)<(k:Int))=false:=by simp
   go_wp2
   go_ret
   exact ⟨_,rfl,by rw [HF.out];rfl,hbel⟩
set_option maxRecDepth 100000 in
theorem contains_tier (p:Nat→Prop) (v:Value) (a:Agr) (w:World) (hA:RTiers w p v a) (la:a.length≤140737488351232) :
  Calls Tryz.prog 160 #[v,.func (.func 182) #[] #[]] w fun e w'=>e = .returned (.bool (anyB (fun i=>lngT (ix a i)) a.length))∧Below w.heap.size w w':=by
 have HC:=Lib.hid (index_tier p v a w hA la)
 generalize anyB (fun i=>lngT (ix a i)) a.length=T at *
 clear hA
 go_enter Tryz.func160,Tryz.ntmps160
 go_wp2_with fail
 refine HC.out.mono ?_
 rintro e w3 ⟨i,rfl,hi,hb3⟩
 have HI:=Lib.hid hi
 have HB3:=Lib.hid hb3
 clear hi hb3 HC
 go_wp2
 go_ret
 exact ⟨ret_bool HI.out,HB3.out⟩
theorem append_sl {P:Program} {w:World} {base:Nat} {t T:TypeId} {sz bytes:Nat} {v x:Value} {n m:Nat} {F G:Nat→List Value} {p:Nat→Prop}
  (h1:P.underlying t=some (.slice T)) (h2:(P.info? T).map (fun i=>(i.zero.map (fun z=>z.cells.size),i.size,i.bytes))=some (some sz,sz,bytes)) (hsz:0<sz)
  (hown:SOwn w base T sz v n F) (hx:Sl w p sz x m G) (h1c : ∀ i,i<m→∀ u∈G i,u.oneCell' = true) (hn:(n+m)*bytes≤140737488355328) (hn2:n+m≤4294967296) (hbase:base≤w.heap.size) :
  ∃ v' w',(∀ ty,(Builtin.append_ #[t,t] ty #[v,x]).run P w = .ok v' w')∧SOwn w' base T sz v' (n+m) (fun j=>if j<n then F j else G (j - n))∧Below base w w':=by
 obtain ⟨i,z,hi,hz,hzs,hsize,hbb⟩:=info_sz h2
 obtain ⟨a,cap,rfl,hc1,hc2,hr,hGl⟩:=hx
 have hfin : ∀ v' w',w'.ownsRow base T sz v' (n+m) ((List.range n).flatMap F ++ (List.range m).flatMap G)→SOwn w' base T sz v' (n+m) (fun j=>if j<n then F j else G (j - n)):=fun v' w' ho=>by
  refine ⟨?_,fun i hi=>?_⟩
  ·have e:(List.range n).flatMap F ++ (List.range m).flatMap G=(List.range (n+m)).flatMap (fun j=>if j<n then F j else G (j - n)):=by
    rw [List.range_add,List.flatMap_append]
    congr 1
    ·rw [List.flatMap_def,List.flatMap_def]
     congr 1
     exact List.map_congr_left fun j hj=>by rw [if_pos (by simpa using hj)]
    ·rw [List.flatMap_map,List.flatMap_def,List.flatMap_def]
     congr 1
     exact List.map_congr_left fun j hj=>by rw [if_neg (by omega)];congr 1;omega
   rw [← e];exact ho
  ·dsimp only
   split
   ·rename_i h;exact hown.2 i h
   ·rename_i h;exact hGl (i - n) (by omega)
 cases a with
 | none =>
  have hm:m=0:=by
   rcases hr with h|⟨b,off,h,_⟩
   ·exact h
   ·cases h
  subst hm
  obtain ⟨sLen,sCap,bs,rfl,hle⟩ : ∃ sLen sCap bs,v = .slice bs sLen sCap∧sLen≤sCap:=by
   rcases hown.form with ⟨rfl,rfl⟩|⟨g,cap',rfl,_,hn',_⟩
   ·exact ⟨0,0,none,rfl,Nat.le_refl _⟩
   ·exact ⟨_,_,_,rfl,hn'⟩
  refine ⟨_,w,fun ty=>run_append_nothing w t t ty T i h1 hi bs sLen sCap hle (.slice none 0 cap) ?_,?_,Below.refl _ _⟩
  ·exact { kind:=.inl ⟨T,h1⟩,len:=by simp [lenOf,go_sem],newsLen:=by simp,cells:=run_firstCells_none w _ _ _ _,cellsD:=run_firstCells_none w.drew _ _ _ _,one:=by simp }
  ·exact hown.congr fun i hi=>by rw [if_pos hi]
 | some ad =>
  have hnews : ∀ j u,((List.range m).flatMap G)[j]?=some u→w.cell? (ad.add j)=some u:=fun j u hj=>by
   rcases hr with h|⟨b,off,h,-,-,hrd⟩
   ·subst h;simp at hj
   ·simp only [Option.some.injEq] at h
    subst h
    have hjl:j<m*sz:=by
     have h9:=(List.getElem?_eq_some_iff.mp hj).1
     have hlen:((List.range m).flatMap G).length=m*sz:=by
      clear hj h9 hn hn2 hrd h1c hc1 hfin
      induction m with
      | zero=>simp
      | succ m ih =>
       rw [List.range_succ,List.flatMap_append,List.length_append,ih (fun i hi=>hGl i (by omega))]
       simp [hGl m (by omega),Nat.succ_mul]
     omega
    have hq:=hrd (j/sz) (j%sz) (Nat.div_lt_of_lt_mul (by rw [Nat.mul_comm];exact hjl)) (Nat.mod_lt _ hsz)
    have hfl:=flatMap_get m hGl (j/sz) (j%sz) (Nat.div_lt_of_lt_mul (by rw [Nat.mul_comm];exact hjl)) (Nat.mod_lt _ hsz)
    have e:j/sz*sz+j%sz=j:=by rw [Nat.mul_comm];exact Nat.div_add_mod j sz
    rw [e] at hfl
    rw [← hfl,hj] at hq
    have ea:(⟨b,off,none⟩:Addr).add j=⟨b,off+j/sz*sz+j%sz,none⟩:=by
     unfold Addr.add;split
     ·rename_i h0;subst h0;simp
     ·rw [Nat.add_assoc,e]
    rw [ea];exact hq
  have hlen:((List.range m).flatMap G).length=m*sz:=by
   clear hnews hn hn2 h1c hc1 hr hfin
   induction m with
   | zero=>simp
   | succ m ih =>
    rw [List.range_succ,List.flatMap_append,List.length_append,ih (fun i hi=>hGl i (by omega))]
    simp [hGl m (by omega),Nat.succ_mul]
  have hone : ∀ u∈(List.range m).flatMap G,u.oneCell' = true:=fun u hu=>by
   obtain ⟨i,hi,hu⟩:=List.mem_flatMap.mp hu
   exact h1c i (by simpa using hi) u hu
  obtain ⟨v',w',hr9,ho9,hg9,-⟩:=run_append_own (P:=P) w base t 0 T i z sz bytes h1 hi hz hsize hbb hzs hsz v n _ hown.1 ad m cap _ hlen hnews hone (by unfold maxLen;omega) hn hbase
  exact ⟨v',w',fun ty=>hr9,hfin v' w' ho9,below_grownS hown.1 hg9 hbase⟩
theorem ix_app {α:Type} [Inhabited α] (l1 l2:List α) (j:Nat):ix (l1 ++ l2) j=if j<l1.length then ix l1 j else ix l2 (j - l1.length):=by
 unfold ix
 by_cases h:j<l1.length
 ·rw [if_pos h];simp [List.getD,List.getElem?_append_left h]
 ·rw [if_neg h];simp [List.getD,List.getElem?_append_right (Nat.le_of_not_lt h)]
theorem partInfo:(Tryz.prog.info? 84).map (fun i=>(i.zero.map (fun z=>z.cells.size),i.size,i.bytes))=some (some 5,5,56):=by kernel_rfl
theorem partRest : ∃ i z,Tryz.prog.info? 84=some i∧i.zero=some z∧z.cells.size=5∧i.size=5∧i.bytes=56:=info_sz partInfo
set_option maxRecDepth 100000 in
theorem grow_part (n:Nat) (w:World) (hn:n≤1000000) :
  Calls Tryz.prog 220 #[.slice none 0 0,.int .i64 (n:Int)] w (RetO w 84 0 5 fun _=>[]):=by
 by_cases h0:n=0
 ·subst h0
  go_enter Tryz.func220,Tryz.ntmps220
  go_wp2
  go_ret
  exact ⟨_,rfl,SOwn.nil _ _ _ _ _,Below.refl _ _⟩
 ·obtain ⟨i,z,hi,hz,hzs,hsize,hbb⟩:=partRest
  have hrz : ∀ ty,(Builtin.append_ #[85,3] ty #[.slice none 0 0,.int .i64 (n:Int)]).run Tryz.prog w =
    .ok (.slice (some ⟨w.heap.size,0,none⟩) (0+n) (grownCap w (0+n) 0 84)) (w.drew.alloc (.cells ((#[]:Array Value) ++ Builtin.zeroCells z.cells n ++ Builtin.zeroCells z.cells (grownCap w (0+n) 0 84 - (0+n))) 84)):=fun ty =>
   Lib.run_append_grow_zeros w 85 3 ty 84 i z .i64 .i64 Tryz.underlying85 Tryz.underlying3 hi hz none 0 0 [] (run_firstCells_none w.drew _ _ _ _) n (by omega) (by omega) (by omega) (by omega)
    (by rw [hbb];omega) (by rw [hbb,Nat.zero_add,nextslicecap_zero (by omega)];omega)
  have hGn:0+n≤grownCap w (0+n) 0 84:=grownCap_ge w _ _ _
  have hGm:=grownCap_le_maxLen w (0+n) 0 84 (by unfold maxLen;omega)
  have hown:SOwn (w.drew.alloc (.cells ((#[]:Array Value) ++ Builtin.zeroCells z.cells n ++ Builtin.zeroCells z.cells (grownCap w (0+n) 0 84 - (0+n))) 84)) w.heap.size 84 5 (.slice (some ⟨w.heap.size,0,none⟩) 0 (grownCap w (0+n) 0 84)) 0 (fun _=>[]):=by
   refine ⟨⟨by simp,.inr ⟨w.heap.size,_,_,rfl,Nat.le_refl _,heap_alloc_new w.drew _,by omega,hGm,?_,by simp⟩⟩,fun i hi=>by omega⟩
   simp only [Nat.zero_add] at hGn ⊢
   simp [size_zeroCells,hzs]
   rw [← Nat.add_mul];congr 1;omega
  have HO:=Lib.hid hown
  have hz5:(w.drew.alloc (.cells ((#[]:Array Value) ++ Builtin.zeroCells z.cells n ++ Builtin.zeroCells z.cells (grownCap w (0+n) 0 84 - (0+n))) 84)).heap.size=w.heap.size+1:=by simp
  have HB:=Lib.hid (show Below w.heap.size w (w.drew.alloc (.cells ((#[]:Array Value) ++ Builtin.zeroCells z.cells n ++ Builtin.zeroCells z.cells (grownCap w (0+n) 0 84 - (0+n))) 84)) from (Below.refl _ _).drew.alloc (by simp) _)
  clear hown hz5
  generalize grownCap w (0+n) 0 84=G at *
  generalize hW:w.drew.alloc (.cells ((#[]:Array Value) ++ Builtin.zeroCells z.cells n ++ Builtin.zeroCells z.cells (G - (0+n))) 84)=W at *
  have h1:(0:Int)<(n:Int):=by omega
  unfold maxLen at hGm
  clear hW hi hz hzs hsize hbb
  go_enter Tryz.func220,Tryz.ntmps220
  go_wp2_with (at_builtin;refine Lib.wpList_append_run _ rfl _ _ _ _ rfl _ _ rfl rfl _ _ (hrz _) ?_)
  go_ret
  exact ⟨_,rfl,HO.out,HB.out⟩
def tot (a:Agr) (k:Nat):Nat:=(a.take k).flatten.length
theorem tot_zero (a:Agr):tot a 0=0:=by simp [tot]
theorem tot_succ {a:Agr} {k:Nat} (h:k<a.length):tot a (k+1)=tot a k+(ix a k).length:=by
 unfold tot;rw [take_succ_ix h];simp
theorem tot_le {a:Agr} {k:Nat} : tot a k≤a.flatten.length:=by
 unfold tot
 conv=>rhs;rw [← List.take_append_drop k a]
 rw [List.flatten_append,List.length_append];omega
theorem tot_all (a:Agr):tot a a.length=a.flatten.length:=by unfold tot;rw [List.take_length]
def prt (a:Agr) (k j:Nat):List Value:=(ix (a.take k).flatten j).c
theorem prt_succ {a:Agr} {k:Nat} (h:k<a.length) (j:Nat):(if j<tot a k then prt a k j else (ix (ix a k) (j - tot a k)).c)=prt a (k+1) j:=by
 unfold prt tot
 rw [take_succ_ix h,List.flatten_append,List.flatten_singleton,ix_app]
 split <;> rfl
theorem prt_all (a:Agr) (j:Nat):prt a a.length j=(ix a.flatten j).c:=by unfold prt;rw [List.take_length]
theorem prt_one (x:Prt) : ∀ u∈x.c,u.oneCell' = true:=by unfold Prt.c;simp [Value.oneCell']
set_option maxRecDepth 100000 in
theorem concat_part (p:Nat→Prop) (v:Value) (a:Agr) (w:World) (hA:RTiers w p v a) (la:a.length≤140737488351232) (lf:a.flatten.length≤1000000) :
  Calls Tryz.prog 183 #[v] w (RetO w 84 a.flatten.length 5 fun i=>(ix a.flatten i).c):=by
 obtain ⟨G,hS,hQ⟩:=hA
 obtain ⟨aa,cap,rfl,-,-⟩:=hS.form
 have HS:=Lib.hid hS
 have HQ:=Lib.hid hQ
 have HTS:=Lib.hid (fun k h=>tot_succ (a:=a) (k:=k) h)
 have HTL:=Lib.hid (fun k=>tot_le (a:=a) (k:=k))
 have HT0:=Lib.hid (tot_zero a)
 have HPS:=Lib.hid (fun k h=>prt_succ (a:=a) (k:=k) h)
 have HTA:=Lib.hid (tot_all a)
 have HPA:=Lib.hid (prt_all a)
 clear hS hQ
 generalize hfl:a.flatten.length=N at *
 generalize hff:(fun i=>(ix a.flatten i).c)=FF at *
 have HPA:=Lib.hid (show ∀ j,prt a a.length j=FF j from fun j=>by rw [HPA.out,← hff])
 clear hff hfl
 generalize tot a=TT at *
 generalize hpp:prt a=PP at *
 clear hpp
 generalize hn:a.length=n at *
 go_enter Tryz.func183,Tryz.ntmps183
 go_wp2_with fail
 go_loopw [3,11] (fun s i wr=>∃ k:Nat,i = .int .i64 k∧k≤n∧s = .int .i64 (TT k:Int)∧w=wr) (fun _ i _=>n - (intOf i).toNat)
 case atStart=>exact ⟨0,rfl,by omega,by rw [HT0.out];rfl,rfl⟩
 case round =>
  obtain ⟨k,rfl,hk,rfl,rfl⟩:=hrel
  by_cases hlt:k<n
  ·obtain ⟨b,off,rfl,-,-,-⟩:=HS.out.get (by omega)
   have c0:=HS.out.cellAt rfl (Below.refl _ _) (i:=k) (j:=0) hlt (by omega)
   obtain ⟨v2,hG,hR⟩:=HQ.out k hlt
   obtain ⟨a2,cap2,rfl,-,-⟩:=hR.plain.form
   rw [hG,Nat.mul_one,Nat.add_zero] at c0
   have c1:w.cell? ⟨b,off+k,none⟩=some (Value.slice a2 (ix a k).length cap2):=c0
   have e1:=HTS.out k (by omega)
   have e2:=HTL.out (k+1)
   have hb9:TT k+(ix a k).length≤1000000:=by omega
   have HE1:=Lib.hid e1
   have i1:(0:Int)≤(k:Int):=by omega
   have i2:(k:Int)<(n:Int):=by omega
   clear c0 hG hR HTS HTL HPS HTA HPA
   generalize (ix a k).length=m at *
   clear e1 e2
   generalize ht1:TT (k+1)=t1 at *
   have HT1:=Lib.hid ht1
   clear ht1
   generalize TT k=t0 at *
   have e3:IntKind.i64.wrap ((t0:Int)+(m:Int))=(t0:Int)+(m:Int):=IntWalk.i64_in _ (by omega)
   have e6:decide ((t0:Int)+(m:Int)<0)=false:=decide_eq_false (by omega)
   go_wp2
   go_roundw
   case rel=>exact ⟨k+1,by go_num,by omega,by rw [HT1.out,HE1.out];simp,by simp⟩
   case measure=>simp [intOf];omega
  ·obtain rfl:k=n:=by omega
   have hnl:decide ((k:Int)<(k:Int))=false:=by simp
   have hle:=HTL.out k
   have HGR:=Lib.hid (grow_part (TT k) w (by omega))
   go_wp2_with fail
   refine HGR.out.mono ?_
   rintro e w1 ⟨v1,rfl,ho1,hb1⟩
   have HO1:=Lib.hid (ho1.congr (G:=PP 0) fun i hi=>by omega)
   have HB1:=Lib.hid hb1
   clear ho1 hb1 HGR
   go_wp2_with fail
   go_loopw [6,27] (fun v i W=>∃ q:Nat,i = .int .i64 q∧q≤k∧SOwn W w.heap.size 84 5 v (TT q) (PP q)∧Below w.heap.size w W) (fun _ i _=>k - (intOf i).toNat)
   case atStart=>exact ⟨0,rfl,by omega,by rw [HT0.out];exact HO1.out,HB1.out⟩
   case round =>
    obtain ⟨q,rfl,hq,hown,hbel⟩:=hrel
    have HB:=Lib.hid hbel
    have hsz:=hbel.size
    by_cases hlt:q<k
    ·obtain ⟨b,off,rfl,-,-,-⟩:=HS.out.get (by omega)
     have c0:=HS.out.cellAt rfl HB.out (i:=q) (j:=0) hlt (by omega)
     obtain ⟨v2,hG,hR⟩:=HQ.out q hlt
     rw [hG,Nat.mul_one,Nat.add_zero] at c0
     have e1:=HTS.out q (by omega)
     have e2:=HTL.out (q+1)
     have hap:=append_sl (t:=85) Tryz.underlying85 partInfo (by omega) hown (hR.on hbel).plain (fun i hi u hu=>prt_one _ u hu) (by omega) (by omega) hsz
     obtain ⟨a2,cap2,rfl,-,-⟩:=hR.plain.form
     obtain ⟨v9,w9,hr9,ho9,hb9⟩:=hap
     have c1:wr.cell? ⟨b,off+q,none⟩=some (Value.slice a2 (ix a q).length cap2):=c0
     have HO9:=Lib.hid (show SOwn w9 w.heap.size 84 5 v9 (TT (q+1)) (PP (q+1)) from by rw [e1];exact ho9.congr fun i hi=>HPS.out q (by omega) i)
     have HB9:=Lib.hid (HB.out.trans hb9)
     have i1:(0:Int)≤(q:Int):=by omega
     have i2:(q:Int)<(k:Int):=by omega
     clear c0 hG hR ho9 hb9 hown hbel HTS HTL HPS HTA HPA HT0
     go_wp2_with (at_builtin;refine Lib.wpList_append_run _ rfl _ _ _ _ rfl _ _ rfl rfl _ _ (hr9 _) ?_)
     go_roundw
     case rel=>exact ⟨q+1,by go_num,by omega,HO9.out,HB9.out⟩
     case measure=>simp [intOf];omega
    ·obtain rfl:q=k:=by omega
     have hnl:decide ((q:Int)<(q:Int))=false:=by simp
     have HR:=Lib.hid (show SOwn wr w.heap.size 84 5 u6 N FF from by rw [← HTA.out];exact hown.congr fun i _=>HPA.out i)
     go_wp2
     go_ret
     exact ⟨_,rfl,HR.out,HB.out⟩
end Go.Proofs.Ins
namespace Go.Proofs
open Go.Shelf
def Tryz.lays189_ren:Go.Shelf.Ren:=⟨fun|189=>184|125=>222|257=>221|128=>269|129=>270|294=>260|295=>261|296=>262|297=>263|298=>264|299=>265|216=>266|300=>267|301=>268|328=>291|329=>292|330=>293|331=>294|332=>295|215=>296|343=>308|n=>n,fun|28=>188|3=>3|46=>105|0=>0|51=>179|53=>168|4=>4|183=>317|182=>316|131=>322|5=>5|9=>9|218=>347|222=>351|228=>362|229=>363|n=>n,fun|n=>n⟩
theorem Tryz.lays189:Go.Proofs.Lays.n189 Tryz.prog Tryz.lays189_ren:={
 mixed:=by kernel_rfl
 f125:=Tryz.func222.trans (congrArg some (by kernel_rfl))
 f128:=Tryz.func269.trans (congrArg some (by kernel_rfl))
 f129:=Tryz.func270.trans (congrArg some (by kernel_rfl))
 f189:=Tryz.func184.trans (congrArg some (by kernel_rfl))
 f215:=Tryz.func296.trans (congrArg some (by kernel_rfl))
 f216:=Tryz.func266.trans (congrArg some (by kernel_rfl))
 f257:=Tryz.func221.trans (congrArg some (by kernel_rfl))
 f294:=Tryz.func260.trans (congrArg some (by kernel_rfl))
 f295:=Tryz.func261.trans (congrArg some (by kernel_rfl))
 f296:=Tryz.func262.trans (congrArg some (by kernel_rfl))
 f297:=Tryz.func263.trans (congrArg some (by kernel_rfl))
 f298:=Tryz.func264.trans (congrArg some (by kernel_rfl))
 f299:=Tryz.func265.trans (congrArg some (by kernel_rfl))
 f300:=Tryz.func267.trans (congrArg some (by kernel_rfl))
 f301:=Tryz.func268.trans (congrArg some (by kernel_rfl))
 f328:=Tryz.func291.trans (congrArg some (by kernel_rfl))
 f329:=Tryz.func292.trans (congrArg some (by kernel_rfl))
 f330:=Tryz.func293.trans (congrArg some (by kernel_rfl))
 f331:=Tryz.func294.trans (congrArg some (by kernel_rfl))
 f332:=Tryz.func295.trans (congrArg some (by kernel_rfl))
 f343:=Tryz.func308.trans (congrArg some (by kernel_rfl))
 t0:=Tryz.underlying0
 a0:=Tryz.isAgg0
 z0:=Tryz.sizeOf0
 v0:=Tryz.zeroValue0
 t3:=Tryz.underlying3
 a3:=Tryz.isAgg3
 z3:=Tryz.sizeOf3
 v3:=Tryz.zeroValue3
 t4:=Tryz.underlying4
 a4:=Tryz.isAgg4
 z4:=Tryz.sizeOf4
 v4:=Tryz.zeroValue4
 t5:=Tryz.underlying5
 a5:=Tryz.isAgg5
 z5:=Tryz.sizeOf5
 v5:=Tryz.zeroValue5
 t9:=Tryz.underlying9
 a9:=Tryz.isAgg9
 z9:=Tryz.sizeOf9
 v9:=Tryz.zeroValue9
 t28:=Tryz.underlying188
 a28:=Tryz.isAgg188
 z28:=Tryz.sizeOf188
 v28:=Tryz.zeroValue188
 t46:=Tryz.underlying105
 a46:=Tryz.isAgg105
 z46:=Tryz.sizeOf105
 v46:=Tryz.zeroValue105
 t51:=Tryz.underlying179
 a51:=Tryz.isAgg179
 z51:=Tryz.sizeOf179
 v51:=Tryz.zeroValue179
 t53:=Tryz.underlying168
 a53:=Tryz.isAgg168
 z53:=Tryz.sizeOf168
 v53:=Tryz.zeroValue168
 t131:=Tryz.underlying322
 a131:=Tryz.isAgg322
 z131:=Tryz.sizeOf322
 v131:=Tryz.zeroValue322
 t182:=Tryz.underlying316
 a182:=Tryz.isAgg316
 z182:=Tryz.sizeOf316
 v182:=Tryz.zeroValue316
 t183:=Tryz.underlying317
 a183:=Tryz.isAgg317
 z183:=Tryz.sizeOf317
 v183:=Tryz.zeroValue317
 t218:=Tryz.underlying347
 a218:=Tryz.isAgg347
 z218:=Tryz.sizeOf347
 v218:=Tryz.zeroValue347
 t222:=Tryz.underlying351
 a222:=Tryz.isAgg351
 z222:=Tryz.sizeOf351
 v222:=Tryz.zeroValue351
 t228:=Tryz.underlying362
 a228:=Tryz.isAgg362
 z228:=Tryz.sizeOf362
 v228:=Tryz.zeroValue362
 t229:=Tryz.underlying363
 a229:=Tryz.isAgg363
 z229:=Tryz.sizeOf363
 v229:=Tryz.zeroValue363 }
open Go.Sort Go.RowKit in
theorem Tryz.slices_Sort_int (blk off cap:Nat) (zs:List Int) (w:World) (hH:Holds (Value.int .i64) w blk off zs.toArray) (hblk:blk<w.heap.size) (hsz:zs.length<4611686018427387904) :
 Calls Tryz.prog 184 #[.slice (some ⟨blk,off,none⟩) zs.length cap] w fun e w' =>
 e = .returned (.tuple #[])∧∃ n os,w' = grow (putRow (Value.int .i64) (Sort.ahead w n) blk off (zs.mergeSort fun x y=>decide (x≤y)).toArray) os:=Any.slices_Sort_int Tryz.lays189 blk off cap zs w hH hblk hsz
open Go.RowKit Go.Sort in
theorem Tryz.slices_Sort_int_none (p:Option Addr) (cap:Nat) (w:World) :
 Calls Tryz.prog 184 #[.slice p 0 cap] w fun e w'=>e = .returned (.tuple #[])∧w' = w:=Any.slices_Sort_int_none Tryz.lays189 p cap w
def Tryz.laysNm220_ren:Go.Shelf.Ren:=⟨fun|20=>185|n=>n,fun|22=>188|3=>3|4=>4|0=>0|n=>n,fun|n=>n⟩
theorem Tryz.laysNm220:Go.Proofs.Lays2.n20 Tryz.prog Tryz.laysNm220_ren:={
 mixed:=by kernel_rfl
 f20:=Tryz.func185.trans (congrArg some (by kernel_rfl))
 t0:=Tryz.underlying0
 a0:=Tryz.isAgg0
 z0:=Tryz.sizeOf0
 v0:=Tryz.zeroValue0
 t3:=Tryz.underlying3
 a3:=Tryz.isAgg3
 z3:=Tryz.sizeOf3
 v3:=Tryz.zeroValue3
 t4:=Tryz.underlying4
 a4:=Tryz.isAgg4
 z4:=Tryz.sizeOf4
 v4:=Tryz.zeroValue4
 t22:=Tryz.underlying188
 a22:=Tryz.isAgg188
 z22:=Tryz.sizeOf188
 v22:=Tryz.zeroValue188
 i3:=by kernel_rfl }
open Go.RowKit Go.Lib Go.Sort in
theorem Tryz.slices_Compact_int (blk off cap:Nat) (zs:List Int) (w:World) (hH:Holds (Value.int .i64) w blk off zs.toArray) (hsz:zs.length≤9223372036854775807) (hcap:zs.length≤cap) :
 Calls Tryz.prog 185 #[.slice (some ⟨blk,off,none⟩) zs.length cap] w fun e w'=>e = .returned (.slice (some ⟨blk,off,none⟩) (Lib.compact zs).length cap)∧∃ q,w' = putRow (Value.int .i64) (Sort.ahead w q) blk off (Lib.compact zs ++ List.replicate (zs.length - (Lib.compact zs).length) 0).toArray:=Any.slices_Compact_int Tryz.laysNm220 blk off cap zs w hH hsz hcap
open Go.RowKit Go.Lib Go.Sort in
theorem Tryz.slices_Compact_int_empty (a:Option Addr) (cap:Nat) (w:World) :
 Calls Tryz.prog 185 #[.slice a 0 cap] w fun e w'=>e = .returned (.slice a 0 cap)∧w' = w:=Any.slices_Compact_int_empty Tryz.laysNm220 a cap w
end Go.Proofs
namespace Go.Proofs.Ins
open Go.RowKit

theorem SOwn.mono {w:World} {base base' : Nat} {T:TypeId} {sz:Nat} {v:Value} {n:Nat} {F:Nat→List Value} (h:SOwn w base T sz v n F) (hb:base'≤base):SOwn w base' T sz v n F:=by
 obtain ⟨⟨h1,h2⟩,h3⟩:=h
 refine ⟨⟨h1,?_⟩,h3⟩
 rcases h2 with h2|⟨g,cap,cur,hv,hg,r⟩
 ·exact .inl h2
 ·exact .inr ⟨g,cap,cur,hv,Nat.le_trans hb hg,r⟩
theorem intInfo:(Tryz.prog.info? 3).map (fun i=>(i.zero.map (fun z=>z.cells.size),i.size,i.bytes))=some (some 1,1,8):=by kernel_rfl
end Go.Proofs.Ins
