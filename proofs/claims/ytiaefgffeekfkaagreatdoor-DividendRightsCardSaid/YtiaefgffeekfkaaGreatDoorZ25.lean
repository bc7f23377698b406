/- The walk of insolvencyref17.claim. -/
import Derived.Test.YtiaefgffeekfkaaGreatDoorZ24
set_option linter.unusedSimpArgs false
set_option linter.unusedVariables false
set_option maxHeartbeats 8000000
namespace Go.Proofs.Ins
open Go.RowKit
theorem chkC_1 {h r:Int} {a:R3} (h1:h < -1):chkC ⟨h,r,a⟩=19:=by unfold chkC; rw [if_pos (.inl h1)]
theorem chkC_2 {h r:Int} {a:R3} (h1:8≤h):chkC ⟨h,r,a⟩=19:=by unfold chkC; rw [if_pos (.inr h1)]
theorem chkC_3 {h r:Int} {a:R3} (h1 : ¬ h < -1) (h2 : ¬ 8≤h) (h3:r<0):chkC ⟨h,r,a⟩=1:=by unfold chkC; rw [if_neg (by simp only; omega),if_pos (.inl h3)]
theorem chkC_4 {h r:Int} {a:R3} (h1 : ¬ h < -1) (h2 : ¬ 8≤h) (h3:7<r):chkC ⟨h,r,a⟩=1:=by unfold chkC; rw [if_neg (by simp only; omega),if_pos (.inr h3)]
theorem chkC_5 {h r:Int} {a:R3} (h1 : ¬ h < -1) (h2 : ¬ 8≤h) (h3 : ¬ r<0) (h4 : ¬ 7<r) (h5:sg a.q<0):chkC ⟨h,r,a⟩=7:=by unfold chkC; rw [if_neg (by simp only; omega),if_neg (by simp only; omega),if_pos h5]
theorem chkC_6 {h r:Int} {a:R3} (h1 : ¬ h < -1) (h2 : ¬ 8≤h) (h3 : ¬ r<0) (h4 : ¬ 7<r) (h5 : ¬ sg a.q<0):chkC ⟨h,r,a⟩=0:=by unfold chkC; rw [if_neg (by simp only; omega),if_neg (by simp only; omega),if_neg h5]
theorem chkE_1 {e:Est} (h:24<e.c.length):chkE e=2:=by unfold chkE; rw [if_pos (.inl h)]
theorem chkE_2 {e:Est} (h:12<e.a.length):chkE e=2:=by unfold chkE; rw [if_pos (.inr h)]
theorem chkE_3 {e:Est} (h : ¬ 24<e.c.length) (h2 : ¬ 12<e.a.length) (h3:sg e.m.q<0):chkE e=7:=by unfold chkE; rw [if_neg (by omega),if_pos h3]
theorem chkE_4 {e:Est} {i:Nat} (h : ¬ 24<e.c.length) (h2 : ¬ 12<e.a.length) (h3 : ¬ sg e.m.q<0) (hi:i<e.c.length) (h4 : ∀ k,k<i→chkC (ix e.c k)=0) (h5:chkC (ix e.c i)≠0):chkE e=chkC (ix e.c i):=by
 have:=fnz_hit (f:=fun i=>chkC (ix e.c i)) h4 h5 hi
 unfold chkE; rw [if_neg (by omega),if_neg h3,if_pos (by rw [this]; exact h5),this]
theorem chkE_5 {e:Est} {i:Nat} (h : ¬ 24<e.c.length) (h2 : ¬ 12<e.a.length) (h3 : ¬ sg e.m.q<0) (h4 : ∀ k,k<e.c.length→chkC (ix e.c k)=0) (hi:i<e.a.length) (h5 : ∀ k,k<i→chkA e.c.length (earA e.a k) (ix e.a k)=0) (h6:chkA e.c.length (earA e.a i) (ix e.a i)≠0):chkE e=chkA e.c.length (earA e.a i) (ix e.a i):=by
 unfold chkE; rw [if_neg (by omega),if_neg h3,if_neg (by rw [fnz_none (f:=fun i=>chkC (ix e.c i)) h4]; simp),fnz_hit (f:=fun k=>chkA e.c.length (earA e.a k) (ix e.a k)) h5 h6 hi]
theorem chkE_6 {e:Est} (h : ¬ 24<e.c.length) (h2 : ¬ 12<e.a.length) (h3 : ¬ sg e.m.q<0) (h4 : ∀ k,k<e.c.length→chkC (ix e.c k)=0) (h5 : ∀ k,k<e.a.length→chkA e.c.length (earA e.a k) (ix e.a k)=0):chkE e=0:=by
 unfold chkE; rw [if_neg (by omega),if_neg h3,if_neg (by rw [fnz_none (f:=fun i=>chkC (ix e.c i)) h4]; simp),fnz_none (f:=fun k=>chkA e.c.length (earA e.a k) (ix e.a k)) h5]
set_option maxRecDepth 100000 in
theorem rcheckestate_any (p:Nat→Prop) (e:Est) (cv av:Value) (w:World) (hC:RClaims w p cv e.c) (hA:RAgrs w p av e.a) (hs:SmallE 134217728 e) :
  Calls Tryz.prog 79 #[e.v cv av] w fun x w'=>x = .returned (.int .i64 (chkE e))∧Below w.heap.size w w':=by
 obtain ⟨a1,c1,rfl,-,-⟩:=hC.plain.form
 have HC:=Lib.hid hC.plain
 have HA0:=Lib.hid hA
 have HSG0:=Lib.hid (fun w=>rsign_r3 e.m w hs.m)
 have HFC:=Lib.hid hs.c
 have lc:=hs.lc
 have la:=hs.la
 have HG:=Lib.hid (fun k (hk:k<e.a.length) w (h:RAgrs w p av e.a)=>agreement_any p (.bool e.m.n) (.string e.m.s) (.string e.m.d) a1 e.c.length c1 av e.a k w h hk hs.lt hs.lp hs.la hs.lc hs.a)
 obtain ⟨aa,ca,rfl,-,-⟩:=(show ∃ aa ca,av = .slice aa e.a.length ca∧True∧True from by obtain ⟨G,hS,-⟩:=hA; obtain ⟨x,y,h,-,-⟩:=hS.form; exact ⟨x,y,h,trivial,trivial⟩)
 have E1:=Lib.hid (fun h=>chkE_1 (e:=e) h)
 have E2:=Lib.hid (fun h=>chkE_2 (e:=e) h)
 have E3:=Lib.hid (fun h h2 h3=>chkE_3 (e:=e) h h2 h3)
 have E4:=Lib.hid (fun i h h2 h3 h4 h5 h6=>chkE_4 (e:=e) (i:=i) h h2 h3 h4 h5 h6)
 have E5:=Lib.hid (fun i h h2 h3 h4 h5 h6 h7=>chkE_5 (e:=e) (i:=i) h h2 h3 h4 h5 h6 h7)
 have E6:=Lib.hid (fun h h2 h3 h4 h5=>chkE_6 (e:=e) h h2 h3 h4 h5)
 unfold Est.v
 clear hs hC hA
 generalize chkE e=R at *
 generalize hca:(fun i=>chkA e.c.length (earA e.a i) (ix e.a i))=CA at *
 have hcaa : ∀ i,chkA e.c.length (earA e.a i) (ix e.a i)=CA i:=fun i=>by rw [← hca]
 simp only [hcaa] at HG E5 E6
 clear hca hcaa
 generalize hcl:e.c=cl at *
 generalize hal:e.a=al at *
 generalize e.m=m at *
 clear hcl hal
 generalize sg m.q=sm at *
 generalize m.n=mn at *
 generalize m.s=ms at *
 generalize m.d=md at *
 generalize hnc:cl.length=nc at *
 generalize hna:al.length=na at *
 by_cases g1:24<nc
 ·have HR:=Lib.hid (E1.out g1)
  have d1:decide (24<nc)=true:=decide_eq_true g1
  have d1' : decide ((24:Int)<(nc:Int))=true:=by simp; omega
  clear E1 E2 E3 E4 E5 E6
  go_enter Tryz.func79,Tryz.ntmps79
  go_wp2
  go_ret
  exact ⟨ret_int HR.out.symm,(Below.refl _ _).alloc (Nat.le_refl _) _⟩
 ·have d1:decide (24<nc)=false:=decide_eq_false g1
  have d1' : decide ((24:Int)<(nc:Int))=false:=by simp; omega
  by_cases g2:12<na
  ·have HR:=Lib.hid (E2.out g2)
   have d2:decide (12<na)=true:=decide_eq_true g2
   have d2' : decide ((12:Int)<(na:Int))=true:=by simp; omega
   clear E1 E2 E3 E4 E5 E6
   go_enter Tryz.func79,Tryz.ntmps79
   go_wp2
   go_ret
   exact ⟨ret_int HR.out.symm,(Below.refl _ _).alloc (Nat.le_refl _) _⟩
  ·have d2:decide (12<na)=false:=decide_eq_false g2
   have d2' : decide ((12:Int)<(na:Int))=false:=by simp; omega
   have E3:=Lib.hid (E3.out g1 g2)
   have E4:=Lib.hid (fun i=>E4.out i g1 g2)
   have E5:=Lib.hid (fun i=>E5.out i g1 g2)
   have E6:=Lib.hid (E6.out g1 g2)
   clear E1 E2
   go_enter Tryz.func79,Tryz.ntmps79
   go_wp2_with fail
   refine (HSG0.out _).mono ?_; rintro x w1 ⟨rfl,hb1⟩
   obtain ⟨J0,HB⟩:=boxes1 hb1
   have J0:=Lib.hid J0
   have HB:=Lib.hid HB
   clear hb1
   by_cases g3:sm<0
   ·have d3:decide (sm<0)=true:=decide_eq_true g3
    have HR:=Lib.hid (E3.out (by omega))
    clear E3 E4 E5 E6
    go_wp2
    go_ret
    exact ⟨ret_int HR.out.symm,HB.out⟩
   ·have d3:decide (sm<0)=false:=decide_eq_false g3
    have E4:=Lib.hid (fun i=>E4.out i (by omega))
    have E5:=Lib.hid (fun i=>E5.out i (by omega))
    have E6:=Lib.hid (E6.out (by omega))
    clear E3
    go_wp2_with fail
    go_loopw [3] (fun i wr=>∃ t:Nat,i = .int .i64 t∧t≤nc∧Blk wr w.heap.size #[.bool mn,.string ms,.string md,.slice a1 nc c1,.slice aa na ca]∧Below w.heap.size w wr∧Hid (∀ i,i<t→chkC (ix cl i)=0)) (fun i _=>nc - (intOf i).toNat)
    case atStart=>exact ⟨0,rfl,by omega,J0.out,HB.out,fun i hi=>by omega⟩
    case round =>
     obtain ⟨t,rfl,ht,K0,hbt,hst⟩:=hrel
     have J0:=Lib.hid K0
     have HB:=Lib.hid hbt
     have k3:wr.cell? ⟨w.heap.size,3,none⟩=some (.slice a1 nc c1):=K0.cell 3
     have hz:=hbt.size
     clear K0 hbt
     by_cases hlt:t<nc
     ·obtain ⟨b3,off3,rfl,-,-,-⟩:=HC.out.get (by omega)
      have e0:=HC.out.cellAt rfl HB.out (i:=t) (j:=0) hlt (by omega)
      have e1:wr.cell? ⟨b3,off3+t*5+1,none⟩=some (.int .i64 (ix cl t).r):=HC.out.cellAt rfl HB.out (i:=t) (j:=1) hlt (by omega)
      have e2:wr.cell? ⟨b3,off3+t*5+2,none⟩=some (.bool (ix cl t).a.n):=HC.out.cellAt rfl HB.out (i:=t) (j:=2) hlt (by omega)
      have e3:wr.cell? ⟨b3,off3+t*5+3,none⟩=some (.string (ix cl t).a.s):=HC.out.cellAt rfl HB.out (i:=t) (j:=3) hlt (by omega)
      have e4:wr.cell? ⟨b3,off3+t*5+4,none⟩=some (.string (ix cl t).a.d):=HC.out.cellAt rfl HB.out (i:=t) (j:=4) hlt (by omega)
      rw [Nat.add_zero] at e0
      have e0' : wr.cell? ⟨b3,off3+t*5,none⟩=some (.int .i64 (ix cl t).h):=e0
      have HH:=Lib.hid (E4.out t hlt hst.out)
      have HN:=Lib.hid (fun h=>all_next (p:=fun i=>chkC (ix cl i)=0) hst.out h)
      have ht1:(0:Int)≤(t:Int):=by omega
      have ht2:(t:Int)<(nc:Int):=by omega
      have fr:=HFC.out t hlt
      clear e0 hst E4 E5 E6 HFC HG HA0
      generalize ix cl t=P at *
      obtain ⟨h,r,a⟩:=P
      simp only at e0' e1 e2 e3 e4 HH HN fr
      have HSG:=Lib.hid (fun w=>rsign_r3 a w fr)
      have F1:=Lib.hid (fun (h1:h < -1)=>(HH.out (by rw [chkC_1 h1]; omega)).trans (chkC_1 h1))
      have F2:=Lib.hid (fun (h1:8≤h)=>(HH.out (by rw [chkC_2 h1]; omega)).trans (chkC_2 h1))
      have F3:=Lib.hid (fun (h1 : ¬ h < -1) (h2 : ¬ 8≤h) (h3:r<0)=>(HH.out (by rw [chkC_3 h1 h2 h3]; omega)).trans (chkC_3 h1 h2 h3))
      have F4:=Lib.hid (fun (h1 : ¬ h < -1) (h2 : ¬ 8≤h) (h3:7<r)=>(HH.out (by rw [chkC_4 h1 h2 h3]; omega)).trans (chkC_4 h1 h2 h3))
      have F5:=Lib.hid (fun (h1 : ¬ h < -1) (h2 : ¬ 8≤h) (h3 : ¬ r<0) (h4 : ¬ 7<r) (h5:sg a.q<0)=>(HH.out (by rw [chkC_5 h1 h2 h3 h4 h5]; omega)).trans (chkC_5 h1 h2 h3 h4 h5))
      have F6:=Lib.hid (fun (h1 : ¬ h < -1) (h2 : ¬ 8≤h) (h3 : ¬ r<0) (h4 : ¬ 7<r) (h5 : ¬ sg a.q<0)=>HN.out (chkC_6 h1 h2 h3 h4 h5))
      clear HH HN
      generalize sg a.q=s at *
      generalize a.n=an at *
      generalize a.s=as' at *
      generalize a.d=ad at *
      obtain ⟨z0,z1,z2,z3,z4⟩:=(J0.out.alloc (.cells #[.int .i64 h,.int .i64 r,.bool an,.string as',.string ad] 79)).c5
      by_cases h1:h < -1
      ·have dh1:decide (h < -1)=true:=decide_eq_true h1
       have HR:=Lib.hid (F1.out h1)
       clear F1 F2 F3 F4 F5 F6
       go_wp2
       go_ret
       exact ⟨ret_int HR.out.symm,HB.out.alloc (by omega) _⟩
      ·have dh1:decide (h < -1)=false:=decide_eq_false h1
       by_cases h2:8≤h
       ·have dh2:decide (8≤h)=true:=decide_eq_true h2
        have HR:=Lib.hid (F2.out h2)
        clear F1 F2 F3 F4 F5 F6
        go_wp2
        go_ret
        exact ⟨ret_int HR.out.symm,HB.out.alloc (by omega) _⟩
       ·have dh2:decide (8≤h)=false:=decide_eq_false h2
        by_cases h3:r<0
        ·have dh3:decide (r<0)=true:=decide_eq_true h3
         have HR:=Lib.hid (F3.out h1 h2 h3)
         clear F1 F2 F3 F4 F5 F6
         go_wp2
         go_ret
         exact ⟨ret_int HR.out.symm,HB.out.alloc (by omega) _⟩
        ·have dh3:decide (r<0)=false:=decide_eq_false h3
         by_cases h4:7<r
         ·have dh4:decide (7<r)=true:=decide_eq_true h4
          have HR:=Lib.hid (F4.out h1 h2 h4)
          clear F1 F2 F3 F4 F5 F6
          go_wp2
          go_ret
          exact ⟨ret_int HR.out.symm,HB.out.alloc (by omega) _⟩
         ·have dh4:decide (7<r)=false:=decide_eq_false h4
          by_cases h5:s<0
          ·have dh5:decide (s<0)=true:=decide_eq_true h5
           have HR:=Lib.hid (F5.out h1 h2 h3 h4 h5)
           clear F1 F2 F3 F4 F5 F6
           go_wp2_with fail
           refine (HSG.out _).mono ?_; rintro e w3 ⟨rfl,hb3⟩
           obtain ⟨-,hbw⟩:=boxes1 hb3
           have J0:=Lib.hid (J0.out.on hbw)
           have HB:=Lib.hid (chain HB.out hbw (Nat.le_refl _))
           clear hb3 hbw z0 z1 z2 z3 z4 k3 e0' e1 e2 e3 e4
           go_wp2
           go_ret
           exact ⟨ret_int HR.out.symm,HB.out⟩
          ·have dh5:decide (s<0)=false:=decide_eq_false h5
           have HX:=Lib.hid (F6.out h1 h2 h3 h4 h5)
           clear F1 F2 F3 F4 F5 F6
           go_wp2_with fail
           refine (HSG.out _).mono ?_; rintro e w3 ⟨rfl,hb3⟩
           obtain ⟨-,hbw⟩:=boxes1 hb3
           have J0:=Lib.hid (J0.out.on hbw)
           have HB:=Lib.hid (chain HB.out hbw (Nat.le_refl _))
           clear hb3 hbw z0 z1 z2 z3 z4 k3 e0' e1 e2 e3 e4
           go_wp2
           go_roundw
           case rel=>exact ⟨t+1,by go_num,by omega,J0.out,HB.out,HX.out⟩
           case measure=>simp [intOf]; omega
     ·obtain rfl:t=nc:=by omega
      have hnl:decide ((t:Int)<(t:Int))=false:=by simp
      have E5:=Lib.hid (fun i=>E5.out i hst.out)
      have E6:=Lib.hid (E6.out hst.out)
      clear E4 hst
      go_wp2_with fail
      go_loopw [5,6] (fun i _ wr=>∃ q:Nat,i = .int .i64 q∧q≤na∧Blk wr w.heap.size #[.bool mn,.string ms,.string md,.slice a1 t c1,.slice aa na ca]∧Below w.heap.size w wr∧Hid (∀ i,i<q→CA i=0)) (fun i _ _=>na - (intOf i).toNat)
      case atStart=>exact ⟨0,rfl,by omega,J0.out,HB.out,fun i hi=>by omega⟩
      case round =>
       obtain ⟨q,rfl,hq,K0,hbq,hsq⟩:=hrel
       have J0:=Lib.hid K0
       have HB:=Lib.hid hbq
       obtain ⟨m0,m1,m2,m3,m4⟩:=K0.c5
       clear K0 hbq
       by_cases hlq:q<na
       ·have HGQ:=Lib.hid (HG.out q hlq _ (HA0.out.on HB.out))
        have HE5:=Lib.hid (E5.out q hlq hsq.out)
        have HN:=Lib.hid (fun h=>all_next (p:=fun i=>CA i=0) hsq.out h)
        have i1:(0:Int)≤(q:Int):=by omega
        have i2:(q:Int)<(na:Int):=by omega
        clear hsq HG E5 E6
        generalize CA q=x at *
        go_wp2_with fail
        refine (HGQ.out).mono ?_; rintro e w4 ⟨rfl,hb4⟩
        have J0:=Lib.hid (J0.out.on hb4)
        have HB:=Lib.hid (chain HB.out hb4 (Nat.le_refl _))
        clear hb4 m0 m1 m2 m3 m4
        by_cases hx:x=0
        ·subst hx
         have HX:=Lib.hid (HN.out rfl)
         clear HN HE5
         go_wp2
         go_roundw
         case rel=>exact ⟨q+1,by go_num,by omega,J0.out,HB.out,HX.out⟩
         case measure=>simp [intOf]; omega
        ·have HR:=Lib.hid (HE5.out hx)
         have hx2:(x != 0)=true:=by simp [hx]
         have hx3:(x == 0)=false:=by simp [hx]
         clear HN HE5
         go_wp2
         go_ret
         exact ⟨ret_int HR.out.symm,HB.out⟩
       ·obtain rfl:q=na:=by omega
        have HR:=Lib.hid (E6.out hsq.out)
        have hnl:decide ((q:Int)<(q:Int))=false:=by simp
        go_wp2
        go_ret
        exact ⟨ret_int HR.out.symm,HB.out⟩
def lgEq (y x:Lg):Bool:=y.e == x.e && y.k == x.k
def fndK (t:List Lg) (x:Lg):Nat→Option Nat
 | 0=>none
 | k+1=>match fndK t x k with
  | some i=>some i
  | none=>if lgEq (ix t k) x=true then some k else none
def fndD (l:List Dbt) (x:Lg):Nat→Option (Nat×Nat)
 | 0=>none
 | d+1=>match fndD l x d with
  | some r=>some r
  | none=>(fndK (ix l d).l x (ix l d).l.length).map fun k=>(d,k)
theorem fndK_none {t:List Lg} {x:Lg} : ∀ {n:Nat},fndK t x n=none↔∀ k,k<n→lgEq (ix t k) x=false
 | 0=>⟨fun _ k hk=>by omega,fun _=>rfl⟩
 | n+1=>by
  unfold fndK
  constructor
  ·intro h k hk
   cases hf:fndK t x n with
   | some i=>rw [hf] at h; cases h
   | none =>
    rw [hf] at h
    by_cases e:k=n
    ·subst e
     cases hb:lgEq (ix t k) x
     ·rfl
     ·simp [hb] at h
    ·exact fndK_none.mp hf k (by omega)
  ·intro h
   rw [fndK_none.mpr fun k hk=>h k (by omega)]
   simp [h n (by omega)]
theorem fndK_hit {t:List Lg} {x:Lg} {k:Nat} (h : ∀ i,i<k→lgEq (ix t i) x=false) (h2:lgEq (ix t k) x=true) : ∀ {n:Nat},k<n→fndK t x n=some k
 | 0,hk=>by omega
 | n+1,hk=>by
  unfold fndK
  by_cases e:k=n
  ·subst e; rw [fndK_none.mpr h]; simp [h2]
  ·rw [fndK_hit h h2 (show k<n by omega)]
theorem fndD_none {l:List Dbt} {x:Lg} : ∀ {n:Nat},fndD l x n=none↔∀ d,d<n→fndK (ix l d).l x (ix l d).l.length=none
 | 0=>⟨fun _ k hk=>by omega,fun _=>rfl⟩
 | n+1=>by
  unfold fndD
  constructor
  ·intro h k hk
   cases hf:fndD l x n with
   | some i=>rw [hf] at h; cases h
   | none =>
    rw [hf] at h
    by_cases e:k=n
    ·subst e; simpa using h
    ·exact fndD_none.mp hf k (by omega)
  ·intro h
   rw [fndD_none.mpr fun k hk=>h k (by omega)]
   simp [h n (by omega)]
theorem fndD_hit {l:List Dbt} {x:Lg} {d k:Nat} (h : ∀ i,i<d→fndK (ix l i).l x (ix l i).l.length=none) (h1 : ∀ i,i<k→lgEq (ix (ix l d).l i) x=false) (h2:lgEq (ix (ix l d).l k) x=true) (hk:k<(ix l d).l.length) : ∀ {n:Nat},d<n→fndD l x n=some (d,k)
 | 0,hd=>by omega
 | n+1,hd=>by
  unfold fndD
  by_cases e:d=n
  ·subst e; rw [fndD_none.mpr h,fndK_hit h1 h2 hk]; rfl
  ·rw [fndD_hit h h1 h2 hk (show d<n by omega)]
def legV:Option (Nat×Nat)→Value
 | none=>.tuple #[.int .i64 0,.int .i64 0,.bool false]
 | some (d,k)=>.tuple #[.int .i64 (d:Int),.int .i64 (k:Int),.bool true]
set_option maxRecDepth 100000 in
theorem leg_any (p:Nat→Prop) (ev dv:Value) (l:List Dbt) (x:Lg) (w:World) (hD:RDbts w p dv l) (ld:l.length≤140737488351232) (ll : ∀ i,i<l.length→(ix l i).l.length≤140737488351232) :
  Calls Tryz.prog 134 #[.agg #[ev,dv],.int .i64 x.e,.int .i64 x.k] w fun e w'=>e = .returned (legV (fndD l x l.length))∧Below w.heap.size w w':=by
 obtain ⟨G,hS,hQ⟩:=hD
 obtain ⟨aa,cap,rfl,-,-⟩:=hS.form
 have HHIT:=Lib.hid (fun d k h h1 h2 hk (hd:d<l.length)=>fndD_hit (l:=l) (x:=x) (d:=d) (k:=k) h h1 h2 hk hd)
 have HNO:=Lib.hid (fun h=>(fndD_none (l:=l) (x:=x) (n:=l.length)).mpr h)
 have HK:=Lib.hid (fun d=>(fndK_none (t:=(ix l d).l) (x:=x) (n:=(ix l d).l.length)).mpr)
 have HS:=Lib.hid hS
 have HQ:=Lib.hid hQ
 have HLL:=Lib.hid ll
 generalize hF:fndD l x l.length=F at *
 clear hF hS hQ ll
 have hq : ∀ y:Lg,lgEq y x=(y.e == x.e && y.k == x.k):=fun y=>rfl
 have HEQ:=Lib.hid hq
 generalize hxe:x.e=xe at *
 generalize hxk:x.k=xk at *
 generalize hfk:(fun d=>fndK (ix l d).l x (ix l d).l.length)=FK at *
 have hfk' : ∀ d,fndK (ix l d).l x (ix l d).l.length=FK d:=fun d=>by rw [← hfk]
 simp only [hfk'] at HHIT HNO HK
 generalize hle:(fun y=>lgEq y x)=LE at *
 have hle' : ∀ y,lgEq y x=LE y:=fun y=>by rw [← hle]
 simp only [hle'] at HHIT HNO HK HEQ
 clear hfk hfk' hle hle' hxe hxk hq
 generalize hn:l.length=n at *
 go_enter Tryz.func134,Tryz.ntmps134
 go_wp2_with fail
 refine wp_forget (fun W=>Blk W w.heap.size #[ev,.slice aa n cap]∧Below w.heap.size w W) ⟨Blk.new _ _ _,(Below.refl _ _).alloc (Nat.le_refl _) _⟩ ?_
 rintro W ⟨hb0,hbel⟩
 have k1:W.cell? ⟨w.heap.size,1,none⟩=some (.slice aa n cap):=hb0.cell 1
 have HB:=Lib.hid hbel
 clear hbel hb0
 go_loopw [9,10] (fun i _ wr=>∃ k:Nat,i = .int .i64 k∧k≤n∧wr=W∧Hid (∀ i,i<k→FK i=none)) (fun i _ _=>n - (intOf i).toNat)
 case atStart=>exact ⟨0,rfl,by omega,rfl,fun i hi=>by omega⟩
 case round =>
  obtain ⟨k,rfl,hk,rfl,hs⟩:=hrel
  by_cases hlt:k<n
  ·obtain ⟨b,off,rfl,-,-,-⟩:=HS.out.get (by omega)
   have c0:=HS.out.cellAt rfl HB.out (i:=k) (j:=3) hlt (by omega)
   obtain ⟨v2,hG,hR⟩:=HQ.out k hlt
   obtain ⟨a2,cap2,rfl,-,-⟩:=hR.plain.form
   rw [hG] at c0
   have c1:wr.cell? ⟨b,off+k*4+3,none⟩=some (.slice a2 (ix l k).l.length cap2):=c0
   have l2:=HLL.out k hlt
   have HP:=Lib.hid hR.plain
   have HHK:=Lib.hid (fun j h1 h2 h3=>HHIT.out k j hs.out h1 h2 h3 hlt)
   have HKK:=Lib.hid (HK.out k)
   have i1:(0:Int)≤(k:Int):=by omega
   have i2:(k:Int)<(n:Int):=by omega
   have HSN:=Lib.hid (fun h=>all_next (p:=fun i=>FK i=none) hs.out h)
   clear c0 hR hG hs HHIT HK
   generalize FK k=fk at *
   generalize hn2:(ix l k).l.length=n2 at *
   generalize hak:(ix l k).l=ak at *
   clear hak
   go_wp2_with fail
   go_loopw [10] (fun i wr'=>∃ j:Nat,i = .int .i64 j∧j≤n2∧wr' = wr∧Hid (∀ i,i<j→LE (ix ak i)=false)) (fun i _=>n2 - (intOf i).toNat)
   case atStart=>exact ⟨0,rfl,by omega,rfl,fun i hi=>by omega⟩
   case round =>
    obtain ⟨j,rfl,hj,rfl,hs2⟩:=hrel
    by_cases hlj:j<n2
    ·obtain ⟨b2,off2,rfl,-,-,-⟩:=HP.out.get (by omega)
     have d0:=HP.out.cellAt rfl HB.out (i:=j) (j:=0) hlj (by omega)
     have d2:=HP.out.cellAt rfl HB.out (i:=j) (j:=1) hlj (by omega)
     rw [Nat.add_zero] at d0
     have d1:=(show _=some (Value.int .i64 (ix ak j).e) from d0)
     have d3:=(show _=some (Value.int .i64 (ix ak j).k) from d2)
     have j1:(0:Int)≤(j:Int):=by omega
     have j2:(j:Int)<(n2:Int):=by omega
     have HYJ:=Lib.hid (fun h=>HHK.out j hs2.out h (by omega))
     have HSJ:=Lib.hid (fun h=>all_next (p:=fun i=>LE (ix ak i)=false) hs2.out h)
     have hq:=HEQ.out (ix ak j)
     clear d0 d2 hs2 HHK
     generalize LE (ix ak j)=lb at *
     generalize (ix ak j).e=ye at *
     generalize (ix ak j).k=yk at *
     by_cases h1:ye=xe
     ·subst h1
      by_cases h2:yk=xk
      ·subst h2
       have HR:=Lib.hid (HYJ.out (by rw [hq]; simp))
       clear hq HSJ HYJ HSN HKK
       go_wp2
       exact bodyPost_ret (v:=.tuple #[.int .i64 (k:Int),.int .i64 (j:Int),.bool true]) (by simp [results,Tryz.results134,go_sem]) rfl ⟨by rw [HR.out]; rfl,HB.out⟩
      ·have HX:=Lib.hid (HSJ.out (by rw [hq]; simp [h2]))
       have g1:(yk == xk)=false:=by simp [h2]
       clear hq HSJ HYJ
       go_wp2
       go_roundw
       case rel=>exact ⟨j+1,by go_num,by omega,by simp,HX.out⟩
       case measure=>simp [intOf]; omega
     ·have HX:=Lib.hid (HSJ.out (by rw [hq]; simp [h1]))
      have g1:(ye == xe)=false:=by simp [h1]
      clear hq HSJ HYJ
      go_wp2
      go_roundw
      case rel=>exact ⟨j+1,by go_num,by omega,by simp,HX.out⟩
      case measure=>simp [intOf]; omega
    ·obtain rfl:j=n2:=by omega
     have HZ:=Lib.hid (HSN.out (HKK.out hs2.out))
     have hnl:decide ((j:Int)<(j:Int))=false:=by simp
     go_wp2
     go_roundw
     case rel=>exact ⟨k+1,by go_num,by omega,by simp,HZ.out⟩
     case measure=>simp [intOf]; omega
  ·obtain rfl:k=n:=by omega
   have HZ:=Lib.hid (HNO.out hs.out)
   have hnl:decide ((k:Int)<(k:Int))=false:=by simp
   go_wp2
   exact bodyPost_ret (v:=.tuple #[.int .i64 0,.int .i64 0,.bool false]) (by simp [results,Tryz.results134,go_sem]) rfl ⟨by rw [HZ.out]; rfl,HB.out⟩
theorem Blk.set5 {w:World} {b:Nat} {x0 x1 x2 x3 x4:Value} (h:Blk w b #[x0,x1,x2,x3,x4]) (y0 y1 y2 y3 y4:Value) :
  Blk (((((w.setCell ⟨b,0,none⟩ y0).setCell ⟨b,1,none⟩ y1).setCell ⟨b,2,none⟩ y2).setCell ⟨b,3,none⟩ y3).setCell ⟨b,4,none⟩ y4) b #[y0,y1,y2,y3,y4]:=((((h.set 0 y0).set 1 y1).set 2 y2).set 3 y3).set 4 y4
theorem below_set5 {B b:Nat} {w w' : World} (h:Below B w w') (hb:B≤b) (y0 y1 y2 y3 y4:Value) :
  Below B w (((((w'.setCell ⟨b,0,none⟩ y0).setCell ⟨b,1,none⟩ y1).setCell ⟨b,2,none⟩ y2).setCell ⟨b,3,none⟩ y3).setCell ⟨b,4,none⟩ y4):=((((h.setCell hb _).setCell hb _).setCell hb _).setCell hb _).setCell hb _
set_option maxRecDepth 100000 in
theorem claim_any (p:Nat→Prop) (g:Grp) (i j:Nat) (v:Value) (w:World) (hG:RGrp w p v g) (hi:i<g.e.length) (hj:j<(ix g.e i).c.length) (le:g.e.length≤140737488351232) (lc:(ix g.e i).c.length≤140737488351232) :
  Calls Tryz.prog 135 #[v,.agg #[.int .i64 (i:Int),.int .i64 (j:Int)]] w fun e w'=>e = .returned (.agg (ix (ix g.e i).c j).c.toArray)∧Below w.heap.size w w':=by
 obtain ⟨ev,dv,rfl,hE,-⟩:=hG
 obtain ⟨G,hS,hQ⟩:=hE
 obtain ⟨aa,cap,rfl,-,-⟩:=hS.form
 obtain ⟨b,off,rfl,-,-,-⟩:=hS.get (by omega)
 obtain ⟨cv,av,hg,hC,-⟩:=hQ i hi
 obtain ⟨a2,cap2,rfl,-,-⟩:=hC.plain.form
 obtain ⟨b2,off2,rfl,-,-,-⟩:=hC.plain.get (by omega)
 have HE:=Lib.hid (fun W (h:Below w.heap.size w W)=>hS.cellAt rfl h (i:=i) (j:=3) hi (by omega))
 have HC:=Lib.hid (fun W (h:Below w.heap.size w W) k (hk:k<5)=>hC.plain.cellAt rfl h (i:=j) (j:=k) hj hk)
 rw [hg] at HE
 have i1:(0:Int)≤(i:Int):=by omega
 have i2:(i:Int)<(g.e.length:Int):=by omega
 have j1:(0:Int)≤(j:Int):=by omega
 have j2:(j:Int)<((ix g.e i).c.length:Int):=by omega
 unfold C5.c at HC
 unfold C5.c
 clear hS hQ hC hg
 generalize hn:g.e.length=n at *
 generalize hm:(ix g.e i).c.length=m at *
 generalize ix (ix g.e i).c j=P at *
 generalize P.h=x0 at *
 generalize P.r=x1 at *
 generalize P.a.n=x2 at *
 generalize P.a.s=x3 at *
 generalize P.a.d=x4 at *
 go_enter Tryz.func135,Tryz.ntmps135
 go_wp2_with fail
 refine wp_forget (fun W=>Blk W w.heap.size #[.slice (some ⟨b,off,none⟩) n cap,dv]∧Blk W (w.heap.size+1) #[.int .i64 (i:Int),.int .i64 (j:Int)]∧Blk W (w.heap.size+1+1) #[.int .i64 0,.int .i64 0,.bool false,.string ⟨#[]⟩,.string ⟨#[]⟩]∧Below w.heap.size w W) (three_boxes w _ _ _ _ _ _) ?_
 rintro W ⟨h0,h1,h2,hbel⟩
 have k0:=cell_regrown (show W.cell? ⟨w.heap.size,0,none⟩=some (Value.slice (some ⟨b,off,none⟩) n cap) from h0.cell 0)
 have k1:=cell_regrown (show W.cell? ⟨w.heap.size+1,0,none⟩=some (Value.int .i64 (i:Int)) from h1.cell 0)
 have k2:=cell_regrown (show W.cell? ⟨w.heap.size+1,1,none⟩=some (Value.int .i64 (j:Int)) from h1.cell 1)
 have k3:=cell_regrown (show W.cell? ⟨b,off+i*5+3,none⟩=some (Value.slice (some ⟨b2,off2,none⟩) m cap2) from HE.out W hbel)
 have k4:=cell_regrown (show W.cell? ⟨b2,off2+j*5,none⟩=some (Value.int .i64 x0) from HC.out W hbel 0 (by omega))
 have k5:=cell_regrown (show W.cell? ⟨b2,off2+j*5+1,none⟩=some (Value.int .i64 x1) from HC.out W hbel 1 (by omega))
 have k6:=cell_regrown (show W.cell? ⟨b2,off2+j*5+2,none⟩=some (Value.bool x2) from HC.out W hbel 2 (by omega))
 have k7:=cell_regrown (show W.cell? ⟨b2,off2+j*5+3,none⟩=some (Value.string x3) from HC.out W hbel 3 (by omega))
 have k8:=cell_regrown (show W.cell? ⟨b2,off2+j*5+4,none⟩=some (Value.string x4) from HC.out W hbel 4 (by omega))
 have J:=Lib.hid h2
 have HB:=Lib.hid hbel
 clear h0 h1 h2 hbel HE HC
 refine wp_region_qbt 11 (by kernel_rfl) (by kernel_rfl) ?_
 simp only [List.take_succ_cons,List.take_zero,List.drop_succ_cons,List.drop_zero]
 repeat (first | go_big_quiet_skip | (refine wpQuiet_step (fun K hK=>?_); go_simp; (try simp (disch:=omega) only [ar9]); (first | (refine hK _ ?_; clear hK K) | (apply Exists.intro; refine ⟨fun _=>?_,hK _ ?_⟩; (fail); clear hK K))))
 clear k0 k1 k2 k3 k4 k5 k6 k7 k8
 refine wpQuiet_nil ?_
 intro W1 hb1
 have J:=Lib.hid (J.out.on hb1)
 have HB:=Lib.hid (chain HB.out hb1 (Nat.le_refl _))
 clear hb1
 obtain ⟨q0,q1,q2,q3,q4⟩:=J.out.c5
 have f0:=J.out.frozen 0
 have f1:=J.out.frozen 1
 have f2:=J.out.frozen 2
 have f3:=J.out.frozen 3
 have f4:=J.out.frozen 4
 go_wp2
 refine bodyPost_forget (fun W=>Blk W (w.heap.size+1+1) #[.int .i64 x0,.int .i64 x1,.bool x2,.string x3,.string x4]∧Below w.heap.size w W) ⟨J.out.set5 _ _ _ _ _,below_set5 HB.out (by omega) _ _ _ _ _⟩ ?_
 rintro WR ⟨hr9,hb9⟩
 obtain ⟨y0,y1,y2,y3,y4⟩:=hr9.c5
 exact bodyPost_ret (v:=.agg #[.int .i64 x0,.int .i64 x1,.bool x2,.string x3,.string x4]) (by simp [results,Tryz.results135,go_sem,y0,y1,y2,y3,y4]) rfl ⟨rfl,hb9⟩
end Go.Proofs.Ins
