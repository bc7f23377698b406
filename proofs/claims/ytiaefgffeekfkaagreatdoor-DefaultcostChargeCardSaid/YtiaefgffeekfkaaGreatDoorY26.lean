/- The walks of insolvencyref17.leg and claim. -/
import Derived.Test.YtiaefgffeekfkaaGreatDoorY25
set_option linter.unusedSimpArgs false
set_option linter.unusedVariables false
set_option maxHeartbeats 8000000
namespace Go.Proofs.Ins
open Go.RowKit
theorem chkP_1 {n:Nat} {tk:Int→Bool} {x:Int} {b:Bool} {r:R3} (h:x < -1):chkP n tk ⟨x,b,r⟩=1:=by unfold chkP;rw [if_pos (.inl h)]
theorem chkP_2 {n:Nat} {tk:Int→Bool} {x:Int} {b:Bool} {r:R3} (h:(n:Int)≤x):chkP n tk ⟨x,b,r⟩=1:=by unfold chkP;rw [if_pos (.inr h)]
theorem chkP_3 {n:Nat} {tk:Int→Bool} {x:Int} {r:R3} (h1 : ¬ x < -1) (h2 : ¬ (n:Int)≤x) (h:x = -1):chkP n tk ⟨x,false,r⟩=21:=by unfold chkP;rw [if_neg (by simp only;omega),if_pos ⟨h,rfl⟩]
theorem chkP_4 {n:Nat} {tk:Int→Bool} {x:Int} {r:R3} (h1 : ¬ x < -1) (h2 : ¬ (n:Int)≤x) (h:sg r.q<0):chkP n tk ⟨x,true,r⟩=7:=by unfold chkP;rw [if_neg (by simp only;omega),if_neg (by simp),if_pos ⟨rfl,h⟩]
theorem chkP_5 {n:Nat} {tk:Int→Bool} {x:Int} {b:Bool} {r:R3} (h1 : ¬ x < -1) (h2 : ¬ (n:Int)≤x) (h3 : ¬ (b=true∧sg r.q<0)) (h:x≠-1) (h5:tk x=true):chkP n tk ⟨x,b,r⟩=20:=by
 unfold chkP;rw [if_neg (by simp only;omega),if_neg (fun h6=>h h6.1),if_neg h3,if_pos ⟨h,h5⟩]
theorem chkP_6 {n:Nat} {tk:Int→Bool} {x:Int} {b:Bool} {r:R3} (h1 : ¬ x < -1) (h2 : ¬ (n:Int)≤x) (h4 : ¬ (x = -1∧b=false)) (h3 : ¬ (b=true∧sg r.q<0)) (h5:x = -1∨tk x=false):chkP n tk ⟨x,b,r⟩=0:=by
 unfold chkP;rw [if_neg (by simp only;omega),if_neg h4,if_neg h3,if_neg]
 rintro ⟨h6,h7⟩
 rcases h5 with h5|h5
 ·exact h6 h5
 ·rw [h5] at h7;cases h7
theorem longT_true {a:Agr} (h:24<a.length):longT a=true:=by unfold longT;rw [decide_eq_true h];rfl
theorem longT_true' {a:Agr} {i:Nat} (hi:i<a.length) (h:24<(ix a i).length):longT a=true:=Bool.not_eq_false _ |>.mp fun h2=>by
 have:=(longT_false.mp h2).2 i hi;omega
theorem chkA_long {n:Nat} {tk:Int→Bool} {a:Agr} (h:longT a=true):chkA n tk a=2:=by unfold chkA;rw [if_pos h]
theorem chkA_hit {n:Nat} {tk:Int→Bool} {a:Agr} {i j:Nat} (h:longT a=false) (hi:i<a.length) (hj:j<(ix a i).length) (h1 : ∀ k,k<i→chkT n tk (ix a k)=0) (h2 : ∀ k,k<j→chkP n tk (ix (ix a i) k)=0) (h3:chkP n tk (ix (ix a i) j)≠0):chkA n tk a=chkP n tk (ix (ix a i) j):=by
 have e:chkT n tk (ix a i)=chkP n tk (ix (ix a i) j):=fnz_hit (f:=fun k=>chkP n tk (ix (ix a i) k)) h2 h3 hj
 unfold chkA;rw [if_neg (by rw [h];simp),fnz_hit (f:=fun k=>chkT n tk (ix a k)) h1 (by rw [e];exact h3) hi,e]
theorem chkA_ok {n:Nat} {tk:Int→Bool} {a:Agr} (h:longT a=false) (h1 : ∀ k,k<a.length→chkT n tk (ix a k)=0):chkA n tk a=0:=by
 unfold chkA;rw [if_neg (by rw [h];simp),fnz_none h1]
set_option maxRecDepth 100000 in
theorem agreement_any (p:Nat→Prop) (x0 x1 x2:Value) (a1:Option Addr) (nc c1:Nat) (av:Value) (l:List Agr) (k:Nat) (w:World) (hA:RAgrs w p av l) (hk:k<l.length) (lt : ∀ i,i<l.length→(ix l i).length≤140737488351232) (lp : ∀ i j,i<l.length→j<(ix l i).length→(ix (ix l i) j).length≤140737488351232) (hl:l.length≤140737488351232)
  (hnc:nc≤140737488351232) (ff : ∀ i j m,i<l.length→j<(ix l i).length→m<(ix (ix l i) j).length→(ix (ix (ix l i) j) m).a.fits 134217728) :
  Calls Tryz.prog 133 #[.agg #[x0,x1,x2,.slice a1 nc c1,av],.int .i64 (k:Int)] w fun e w'=>e = .returned (.int .i64 (chkA nc (earA l k) (ix l k)))∧Below w.heap.size w w':=by
 have HEA:=Lib.hid (fun c w (h:RAgrs w p av l)=>earlier_any p x0 x1 x2 (.slice a1 nc c1) av l k c w h (by omega) lt lp hl)
 have HA0:=Lib.hid hA
 obtain ⟨G,hS,hQ⟩:=hA
 obtain ⟨aa,cap,rfl,-,-⟩:=hS.form
 have HS:=Lib.hid hS
 have HFF:=Lib.hid (ff k · · hk)
 have lt':=lt k hk
 have HLP:=Lib.hid (lp k · hk)
 obtain ⟨tv,hG,hT⟩:=hQ k hk
 obtain ⟨b,off,rfl,-,-,-⟩:=hS.get (by omega)
 have HC0:=Lib.hid (fun W (h:Below w.heap.size w W)=>hS.cellAt rfl h (i:=k) (j:=0) hk (by omega))
 rw [hG,Nat.mul_one,Nat.add_zero] at HC0
 obtain ⟨G2,hS2,hQ2⟩:=hT
 obtain ⟨at',capt,rfl,-,-⟩:=hS2.form
 have HS2:=Lib.hid hS2
 have HQ2:=Lib.hid hQ2
 generalize htk:earA l k=tk at *
 generalize ha:ix l k=a at *
 clear hS hQ hS2 hQ2 htk ha lt lp ff
 have i0:(0:Int)≤(k:Int):=by omega
 have i00:(k:Int)<(l.length:Int):=by omega
 have HLONG:=Lib.hid (fun h=>chkA_long (n:=nc) (tk:=tk) (a:=a) h)
 have HHIT:=Lib.hid (fun i j h=>chkA_hit (n:=nc) (tk:=tk) (a:=a) (i:=i) (j:=j) h)
 have HOK:=Lib.hid (fun h=>chkA_ok (n:=nc) (tk:=tk) (a:=a) h)
 have HLF:=Lib.hid (fun (h1:a.length≤24) (h2 : ∀ i,i<a.length→(ix a i).length≤24)=>longT_false.mpr ⟨h1,h2⟩)
 have HLT:=Lib.hid (fun (h:24<a.length)=>longT_true h)
 have HLT':=Lib.hid (fun i (hi:i<a.length) (h:24<(ix a i).length)=>longT_true' hi h)
 have HTN:=Lib.hid (show ∀ i,chkT nc tk (ix a i)=fnz (fun j=>chkP nc tk (ix (ix a i) j)) (ix a i).length from fun i=>rfl)
 generalize hR:chkA nc tk a=R at *
 clear hR
 generalize hn:a.length=n at *
 go_enter Tryz.func133,Tryz.ntmps133
 have c0:=HC0.out (w.alloc (.cells #[x0,x1,x2,.slice a1 nc c1,.slice (some ⟨b,off,none⟩) l.length cap] 76)) ((Below.refl _ _).alloc (Nat.le_refl _) _)
 have c0' : (w.alloc (.cells #[x0,x1,x2,.slice a1 nc c1,.slice (some ⟨b,off,none⟩) l.length cap] 76)).cell? ⟨b,off+k,none⟩=some (.slice at' n capt):=c0
 clear c0
 by_cases h24:24<n
 ·have e24:decide (24<n)=true:=decide_eq_true h24
  have e24' : decide ((24:Int)<(n:Int))=true:=by simp;omega
  have HR:=Lib.hid (HLONG.out (HLT.out h24))
  go_wp2
  go_ret
  exact ⟨ret_int HR.out.symm,((Below.refl _ _).alloc (Nat.le_refl _) _).alloc (by simp) _⟩
 ·have e24:decide (24<n)=false:=decide_eq_false h24
  have e24' : decide ((24:Int)<(n:Int))=false:=by simp;omega
  go_wp2_with fail
  refine wp_forget (fun W=>Blk W w.heap.size #[x0,x1,x2,.slice a1 nc c1,.slice (some ⟨b,off,none⟩) l.length cap]∧Blk W (w.heap.size+1) #[.slice at' n capt]∧Below w.heap.size w W) (duo w _ _ _ _) ?_
  rintro W ⟨hb0,hb1,hbel⟩
  have J0:=Lib.hid hb0
  have J1:=Lib.hid hb1
  have HB:=Lib.hid hbel
  have k1:W.cell? ⟨w.heap.size+1,0,none⟩=some (.slice at' n capt):=hb1.cell 0
  clear hbel hb0 hb1 c0'
  go_loopw [6] (fun i wr=>∃ j:Nat,i = .int .i64 j∧j≤n∧wr=W∧Hid (∀ i,i<j→(ix a i).length≤24)) (fun i _=>n - (intOf i).toNat)
  case atStart=>exact ⟨0,rfl,by omega,rfl,fun i hi=>by omega⟩
  case round =>
   obtain ⟨j,rfl,hj,rfl,hs⟩:=hrel
   by_cases hlt:j<n
   ·obtain ⟨b2,off2,rfl,-,-,-⟩:=HS2.out.get (by omega)
    have d0:=HS2.out.cellAt rfl HB.out (i:=j) (j:=0) hlt (by omega)
    obtain ⟨v2,hG3,hR3⟩:=HQ2.out j hlt
    obtain ⟨a3,cap3,rfl,-,-⟩:=hR3.plain.form
    rw [hG3,Nat.mul_one,Nat.add_zero] at d0
    have d1:wr.cell? ⟨b2,off2+j,none⟩=some (.slice a3 (ix a j).length cap3):=d0
    have l2:=HLP.out j hlt
    have i1:(0:Int)≤(j:Int):=by omega
    have i2:(j:Int)<(n:Int):=by omega
    have HSN:=Lib.hid (fun h=>all_next (p:=fun i=>(ix a i).length≤24) hs.out h)
    have HLJ:=Lib.hid (HLT'.out j hlt)
    clear d0 hR3 hG3 hs
    generalize (ix a j).length=n2 at *
    by_cases h24:24<n2
    ·have f24:decide (24<n2)=true:=decide_eq_true h24
     have f24' : decide ((24:Int)<(n2:Int))=true:=by simp;omega
     have HR:=Lib.hid (HLONG.out (HLJ.out h24))
     go_wp2
     go_ret
     exact ⟨ret_int HR.out.symm,HB.out⟩
    ·have f24:decide (24<n2)=false:=decide_eq_false h24
     have f24' : decide ((24:Int)<(n2:Int))=false:=by simp;omega
     have HX:=Lib.hid (HSN.out (by omega))
     go_wp2
     go_roundw
     case rel=>exact ⟨j+1,by go_num,by omega,by simp,HX.out⟩
     case measure=>simp [intOf];omega
   ·obtain rfl:j=n:=by omega
    have hnl:decide ((j:Int)<(j:Int))=false:=by simp
    have HLL:=Lib.hid (HLF.out (by omega) hs.out)
    have HL24:=Lib.hid hs.out
    have HHIT:=Lib.hid (fun i t=>HHIT.out i t HLL.out)
    have HOK:=Lib.hid (HOK.out HLL.out)
    clear hs
    go_wp2_with fail
    go_loopw [7] (fun i wr'=>∃ q:Nat,i = .int .i64 q∧q≤j∧Blk wr' w.heap.size #[x0,x1,x2,.slice a1 nc c1,.slice (some ⟨b,off,none⟩) l.length cap]∧Blk wr' (w.heap.size+1) #[.slice at' j capt]∧Below w.heap.size w wr'∧Hid (∀ i,i<q→chkT nc tk (ix a i)=0)) (fun i _=>j - (intOf i).toNat)
    case atStart=>exact ⟨0,rfl,by omega,J0.out,J1.out,HB.out,fun i hi=>by omega⟩
    case round =>
     obtain ⟨q,rfl,hq,K0,K1,hbq,hsq⟩:=hrel
     have J0:=Lib.hid K0
     have J1:=Lib.hid K1
     have HB:=Lib.hid hbq
     clear K0 K1 hbq
     by_cases hlq:q<j
     ·obtain ⟨b2,off2,rfl,-,-,-⟩:=HS2.out.get (by omega)
      obtain ⟨v2,hG3,hR3⟩:=HQ2.out q hlq
      obtain ⟨a3,cap3,rfl,-,-⟩:=hR3.plain.form
      have HD:=Lib.hid (fun W (h:Below w.heap.size w W)=>HS2.out.cellAt rfl h (i:=q) (j:=0) hlq (by omega))
      rw [hG3,Nat.mul_one,Nat.add_zero] at HD
      have HP:=Lib.hid hR3.plain
      have l2:=HLP.out q hlq
      have l24:=HL24.out q hlq
      have i1:(0:Int)≤(q:Int):=by omega
      have i2:(q:Int)<(j:Int):=by omega
      have HTQ:=Lib.hid (HTN.out q)
      have HTZ:=Lib.hid (fun h=>all_next (p:=fun i=>chkT nc tk (ix a i)=0) hsq.out h)
      have HHQ:=Lib.hid (fun t ht=>HHIT.out q t hlq ht hsq.out)
      have HFQ:=Lib.hid (HFF.out q · hlq)
      clear hR3 hG3 hsq
      generalize hn2:(ix a q).length=n2 at *
      generalize haq:ix a q=aq at *
      clear haq
      have k1:wr.cell? ⟨w.heap.size+1,0,none⟩=some (Value.slice (some ⟨b2,off2,none⟩) j capt):=J1.out.cell 0
      go_wp2_with fail
      go_loopw [8] (fun i wr'=>∃ t:Nat,i = .int .i64 t∧t≤n2∧Blk wr' w.heap.size #[x0,x1,x2,.slice a1 nc c1,.slice (some ⟨b,off,none⟩) l.length cap]∧Blk wr' (w.heap.size+1) #[.slice (some ⟨b2,off2,none⟩) j capt]∧Below w.heap.size w wr'∧Hid (∀ i,i<t→chkP nc tk (ix aq i)=0)) (fun i _=>n2 - (intOf i).toNat)
      case atStart=>exact ⟨0,rfl,by omega,J0.out,J1.out,HB.out,fun i hi=>by omega⟩
      case round =>
       obtain ⟨t,rfl,ht,K0,K1,hbt,hst⟩:=hrel
       have J0:=Lib.hid K0
       have J1:=Lib.hid K1
       have HB:=Lib.hid hbt
       have d1:=HD.out _ hbt
       have k1:wr.cell? ⟨w.heap.size+1,0,none⟩=some (Value.slice (some ⟨b2,off2,none⟩) j capt):=K1.cell 0
       clear K0 K1 hbt
       by_cases hlt:t<n2
       ·obtain ⟨b3,off3,rfl,-,-,-⟩:=HP.out.get (by omega)
        have e0:=HP.out.cellAt rfl HB.out (i:=t) (j:=0) hlt (by omega)
        have e1:wr.cell? ⟨b3,off3+t*5+1,none⟩=some (Value.bool (ix aq t).b):=HP.out.cellAt rfl HB.out (i:=t) (j:=1) hlt (by omega)
        have e2:wr.cell? ⟨b3,off3+t*5+2,none⟩=some (Value.bool (ix aq t).a.n):=HP.out.cellAt rfl HB.out (i:=t) (j:=2) hlt (by omega)
        have e3:wr.cell? ⟨b3,off3+t*5+3,none⟩=some (Value.string (ix aq t).a.s):=HP.out.cellAt rfl HB.out (i:=t) (j:=3) hlt (by omega)
        have e4:wr.cell? ⟨b3,off3+t*5+4,none⟩=some (Value.string (ix aq t).a.d):=HP.out.cellAt rfl HB.out (i:=t) (j:=4) hlt (by omega)
        rw [Nat.add_zero] at e0
        have e0' : wr.cell? ⟨b3,off3+t*5,none⟩=some (Value.int .i64 (ix aq t).k):=e0
        have HH:=Lib.hid (HHQ.out t hlt hst.out)
        have HN:=Lib.hid (fun h=>all_next (p:=fun i=>chkP nc tk (ix aq i)=0) hst.out h)
        have ht1:(0:Int)≤(t:Int):=by omega
        have ht2:(t:Int)<(n2:Int):=by omega
        have fr:=HFQ.out t hlt
        have hz:=HB.out.size
        clear e0 hst HD HHQ HTZ HTQ HFQ HHIT HOK HLONG HLT HLT' HLF HL24 HLP HC0 HFF
        generalize ix aq t=P at *
        obtain ⟨x,pb,r⟩:=P
        simp only at e0' e1 e2 e3 e4 HH HN fr
        have HSG:=Lib.hid (fun w=>rsign_r3 r w fr)
        have HE:=Lib.hid (fun w h=>HEA.out x w h)
        have F1:=Lib.hid (fun (h:x < -1)=>(HH.out (by rw [chkP_1 h];omega)).trans (chkP_1 h))
        have F2:=Lib.hid (fun (h:(nc:Int)≤x)=>(HH.out (by rw [chkP_2 h];omega)).trans (chkP_2 h))
        have F3:=Lib.hid (fun (h1 : ¬ x < -1) (h2 : ¬ (nc:Int)≤x) (h:x = -1) (hb:pb=false)=>(show R=21 by subst hb;exact (HH.out (by rw [chkP_3 h1 h2 h];omega)).trans (chkP_3 h1 h2 h)))
        have F4:=Lib.hid (fun (h1 : ¬ x < -1) (h2 : ¬ (nc:Int)≤x) (hb:pb=true) (h:sg r.q<0)=>(show R=7 by subst hb;exact (HH.out (by rw [chkP_4 h1 h2 h];omega)).trans (chkP_4 h1 h2 h)))
        have F5:=Lib.hid (fun (h1 : ¬ x < -1) (h2 : ¬ (nc:Int)≤x) (h3 : ¬ (pb=true∧sg r.q<0)) (h:x≠-1) (h5:tk x=true)=>(HH.out (by rw [chkP_5 h1 h2 h3 h h5];omega)).trans (chkP_5 h1 h2 h3 h h5))
        have F6:=Lib.hid (fun (h1 : ¬ x < -1) (h2 : ¬ (nc:Int)≤x) (h4 : ¬ (x = -1∧pb=false)) (h3 : ¬ (pb=true∧sg r.q<0)) (h5:x = -1∨tk x=false)=>HN.out (chkP_6 h1 h2 h4 h3 h5))
        clear HH HN HEA
        generalize tk x=tkx at *
        generalize sg r.q=s at *
        generalize r.n=rn' at *
        generalize r.s=rs' at *
        generalize r.d=rd' at *
        obtain ⟨z0,z1,z2,z3,z4⟩:=(J0.out.alloc (.cells #[.int .i64 x,.bool pb,.bool rn',.string rs',.string rd'] 84)).c5
        by_cases h1:x < -1
        ·have dh1:decide (x < -1)=true:=decide_eq_true h1
         have HR:=Lib.hid (F1.out h1)
         clear F1 F2 F3 F4 F5 F6
         go_wp2
         go_ret
         exact ⟨ret_int HR.out.symm,HB.out.alloc (by omega) _⟩
        ·have dh1:decide (x < -1)=false:=decide_eq_false h1
         by_cases h2:(nc:Int)≤x
         ·have dh2:decide ((nc:Int)≤x)=true:=decide_eq_true h2
          have HR:=Lib.hid (F2.out h2)
          clear F1 F2 F3 F4 F5 F6
          go_wp2
          go_ret
          exact ⟨ret_int HR.out.symm,HB.out.alloc (by omega) _⟩
         ·have dh2:decide ((nc:Int)≤x)=false:=decide_eq_false h2
          by_cases h3:x = -1
          ·skip
           subst h3
           cases pb
           ·skip
            have HR:=Lib.hid (F3.out h1 h2 rfl rfl)
            clear F1 F2 F3 F4 F5 F6
            go_wp2
            go_ret
            exact ⟨ret_int HR.out.symm,HB.out.alloc (by omega) _⟩
           ·skip
            by_cases hs0:s<0
            ·have dhs0:decide (s<0)=true:=decide_eq_true hs0
             have HR:=Lib.hid (F4.out h1 h2 rfl hs0)
             clear F1 F2 F3 F4 F5 F6
             go_wp2_with fail
             refine (HSG.out _).mono ?_;rintro e w3 ⟨rfl,hb3⟩
             obtain ⟨K2,hbw⟩:=boxes1 hb3
             have J0:=Lib.hid (J0.out.on hbw)
             have J1:=Lib.hid (J1.out.on hbw)
             have K2:=Lib.hid K2
             have HB:=Lib.hid (chain HB.out hbw (Nat.le_refl _))
             clear hb3 hbw z0 z1 z2 z3 z4 k1 d1 e0' e1 e2 e3 e4
             have q0:w3.cell? ⟨wr.heap.size,0,none⟩=some (Value.int .i64 (-1)):=K2.out.cell 0
             have q1:w3.cell? ⟨w.heap.size+1,0,none⟩=some (Value.slice (some ⟨b2,off2,none⟩) j capt):=J1.out.cell 0
             go_wp2
             go_ret
             exact ⟨ret_int HR.out.symm,HB.out⟩
            ·have dhs0:decide (s<0)=false:=decide_eq_false hs0
             have HX:=Lib.hid (F6.out h1 h2 (by simp) (fun h=>hs0 h.2) (.inl rfl))
             clear F1 F2 F3 F4 F5 F6
             go_wp2_with fail
             refine (HSG.out _).mono ?_;rintro e w3 ⟨rfl,hb3⟩
             obtain ⟨K2,hbw⟩:=boxes1 hb3
             have J0:=Lib.hid (J0.out.on hbw)
             have J1:=Lib.hid (J1.out.on hbw)
             have K2:=Lib.hid K2
             have HB:=Lib.hid (chain HB.out hbw (Nat.le_refl _))
             clear hb3 hbw z0 z1 z2 z3 z4 k1 d1 e0' e1 e2 e3 e4
             have q0:w3.cell? ⟨wr.heap.size,0,none⟩=some (Value.int .i64 (-1)):=K2.out.cell 0
             have q1:w3.cell? ⟨w.heap.size+1,0,none⟩=some (Value.slice (some ⟨b2,off2,none⟩) j capt):=J1.out.cell 0
             go_wp2
             go_roundw
             case rel=>exact ⟨t+1,by go_num,by omega,J0.out,J1.out,HB.out,HX.out⟩
             case measure=>simp [intOf];omega
          ·skip
           have n1:(x == -1)=false:=by simp [h3]
           have n2' : (x != -1)=true:=by simp [h3]
           cases pb
           ·skip
            cases tkx
            ·skip
             have HX:=Lib.hid (F6.out h1 h2 (fun h=>h3 h.1) (by simp) (.inr rfl))
             clear F1 F2 F3 F4 F5 F6
             go_wp2_with fail
             refine (HE.out _ (HA0.out.on (HB.out.alloc (by omega) _))).mono ?_;rintro e w4 ⟨rfl,hb4⟩
             obtain ⟨K2,hbw⟩:=boxes1 hb4
             have J0:=Lib.hid (J0.out.on hbw)
             have J1:=Lib.hid (J1.out.on hbw)
             have HB:=Lib.hid (chain HB.out hbw (Nat.le_refl _))
             clear hb4 hbw K2 z0 z1 z2 z3 z4 k1 d1 e0' e1 e2 e3 e4
             go_wp2
             go_roundw
             case rel=>exact ⟨t+1,by go_num,by omega,J0.out,J1.out,HB.out,HX.out⟩
             case measure=>simp [intOf];omega
            ·skip
             have HR:=Lib.hid (F5.out h1 h2 (by simp) h3 rfl)
             clear F1 F2 F3 F4 F5 F6
             go_wp2_with fail
             refine (HE.out _ (HA0.out.on (HB.out.alloc (by omega) _))).mono ?_;rintro e w4 ⟨rfl,hb4⟩
             obtain ⟨K2,hbw⟩:=boxes1 hb4
             have J0:=Lib.hid (J0.out.on hbw)
             have J1:=Lib.hid (J1.out.on hbw)
             have HB:=Lib.hid (chain HB.out hbw (Nat.le_refl _))
             clear hb4 hbw K2 z0 z1 z2 z3 z4 k1 d1 e0' e1 e2 e3 e4
             go_wp2
             go_ret
             exact ⟨ret_int HR.out.symm,HB.out⟩
           ·skip
            by_cases hs0:s<0
            ·have dhs0:decide (s<0)=true:=decide_eq_true hs0
             have HR:=Lib.hid (F4.out h1 h2 rfl hs0)
             clear F1 F2 F3 F4 F5 F6
             go_wp2_with fail
             refine (HSG.out _).mono ?_;rintro e w3 ⟨rfl,hb3⟩
             obtain ⟨K2,hbw⟩:=boxes1 hb3
             have J0:=Lib.hid (J0.out.on hbw)
             have J1:=Lib.hid (J1.out.on hbw)
             have K2:=Lib.hid K2
             have HB:=Lib.hid (chain HB.out hbw (Nat.le_refl _))
             clear hb3 hbw z0 z1 z2 z3 z4 k1 d1 e0' e1 e2 e3 e4
             have q0:w3.cell? ⟨wr.heap.size,0,none⟩=some (Value.int .i64 x):=K2.out.cell 0
             have q1:w3.cell? ⟨w.heap.size+1,0,none⟩=some (Value.slice (some ⟨b2,off2,none⟩) j capt):=J1.out.cell 0
             go_wp2
             go_ret
             exact ⟨ret_int HR.out.symm,HB.out⟩
            ·have dhs0:decide (s<0)=false:=decide_eq_false hs0
             cases tkx
             ·skip
              have HX:=Lib.hid (F6.out h1 h2 (fun h=>h3 h.1) (fun h=>hs0 h.2) (.inr rfl))
              clear F1 F2 F3 F4 F5 F6
              go_wp2_with fail
              refine (HSG.out _).mono ?_;rintro e w3 ⟨rfl,hb3⟩
              obtain ⟨K2,hbw⟩:=boxes1 hb3
              have J0:=Lib.hid (J0.out.on hbw)
              have J1:=Lib.hid (J1.out.on hbw)
              have K2:=Lib.hid K2
              have HB:=Lib.hid (chain HB.out hbw (Nat.le_refl _))
              clear hb3 hbw z0 z1 z2 z3 z4 k1 d1 e0' e1 e2 e3 e4
              have q0:w3.cell? ⟨wr.heap.size,0,none⟩=some (Value.int .i64 x):=K2.out.cell 0
              have q1:w3.cell? ⟨w.heap.size+1,0,none⟩=some (Value.slice (some ⟨b2,off2,none⟩) j capt):=J1.out.cell 0
              obtain ⟨m0,m1,m2,m3,m4⟩:=J0.out.c5
              go_wp2_with fail
              refine (HE.out _ (HA0.out.on HB.out)).mono ?_;rintro e w4 ⟨rfl,hb4⟩
              have J0:=Lib.hid (J0.out.on hb4)
              have J1:=Lib.hid (J1.out.on hb4)
              have HB:=Lib.hid (chain HB.out hb4 (Nat.le_refl _))
              clear hb4 m0 m1 m2 m3 m4 q0 q1
              go_wp2
              go_roundw
              case rel=>exact ⟨t+1,by go_num,by omega,J0.out,J1.out,HB.out,HX.out⟩
              case measure=>simp [intOf];omega
             ·skip
              have HR:=Lib.hid (F5.out h1 h2 (fun h=>hs0 h.2) h3 rfl)
              clear F1 F2 F3 F4 F5 F6
              go_wp2_with fail
              refine (HSG.out _).mono ?_;rintro e w3 ⟨rfl,hb3⟩
              obtain ⟨K2,hbw⟩:=boxes1 hb3
              have J0:=Lib.hid (J0.out.on hbw)
              have J1:=Lib.hid (J1.out.on hbw)
              have K2:=Lib.hid K2
              have HB:=Lib.hid (chain HB.out hbw (Nat.le_refl _))
              clear hb3 hbw z0 z1 z2 z3 z4 k1 d1 e0' e1 e2 e3 e4
              have q0:w3.cell? ⟨wr.heap.size,0,none⟩=some (Value.int .i64 x):=K2.out.cell 0
              have q1:w3.cell? ⟨w.heap.size+1,0,none⟩=some (Value.slice (some ⟨b2,off2,none⟩) j capt):=J1.out.cell 0
              obtain ⟨m0,m1,m2,m3,m4⟩:=J0.out.c5
              go_wp2_with fail
              refine (HE.out _ (HA0.out.on HB.out)).mono ?_;rintro e w4 ⟨rfl,hb4⟩
              have J0:=Lib.hid (J0.out.on hb4)
              have J1:=Lib.hid (J1.out.on hb4)
              have HB:=Lib.hid (chain HB.out hb4 (Nat.le_refl _))
              clear hb4 m0 m1 m2 m3 m4 q0 q1
              go_wp2
              go_ret
              exact ⟨ret_int HR.out.symm,HB.out⟩
       ·obtain rfl:t=n2:=by omega
        have HX:=Lib.hid (HTZ.out (by rw [HTQ.out];exact fnz_none hst.out))
        have hnl:decide ((t:Int)<(t:Int))=false:=by simp
        go_wp2
        go_roundw
        case rel=>exact ⟨q+1,by go_num,by omega,J0.out,J1.out,HB.out,HX.out⟩
        case measure=>simp [intOf];omega
     ·obtain rfl:q=j:=by omega
      have HR:=Lib.hid (HOK.out hsq.out)
      have hnl:decide ((q:Int)<(q:Int))=false:=by simp
      have k1:wr.cell? ⟨w.heap.size+1,0,none⟩=some (Value.slice at' q capt):=J1.out.cell 0
      go_wp2
      go_ret
      exact ⟨ret_int HR.out.symm,HB.out⟩
theorem chkC_1 {h r:Int} {a:R3} (h1:h < -1):chkC ⟨h,r,a⟩=19:=by unfold chkC;rw [if_pos (.inl h1)]
theorem chkC_2 {h r:Int} {a:R3} (h1:8≤h):chkC ⟨h,r,a⟩=19:=by unfold chkC;rw [if_pos (.inr h1)]
theorem chkC_3 {h r:Int} {a:R3} (h1 : ¬ h < -1) (h2 : ¬ 8≤h) (h3:r<0):chkC ⟨h,r,a⟩=1:=by unfold chkC;rw [if_neg (by simp only;omega),if_pos (.inl h3)]
theorem chkC_4 {h r:Int} {a:R3} (h1 : ¬ h < -1) (h2 : ¬ 8≤h) (h3:7<r):chkC ⟨h,r,a⟩=1:=by unfold chkC;rw [if_neg (by simp only;omega),if_pos (.inr h3)]
theorem chkC_5 {h r:Int} {a:R3} (h1 : ¬ h < -1) (h2 : ¬ 8≤h) (h3 : ¬ r<0) (h4 : ¬ 7<r) (h5:sg a.q<0):chkC ⟨h,r,a⟩=7:=by unfold chkC;rw [if_neg (by simp only;omega),if_neg (by simp only;omega),if_pos h5]
theorem chkC_6 {h r:Int} {a:R3} (h1 : ¬ h < -1) (h2 : ¬ 8≤h) (h3 : ¬ r<0) (h4 : ¬ 7<r) (h5 : ¬ sg a.q<0):chkC ⟨h,r,a⟩=0:=by unfold chkC;rw [if_neg (by simp only;omega),if_neg (by simp only;omega),if_neg h5]
theorem chkE_1 {e:Est} (h:24<e.c.length):chkE e=2:=by unfold chkE;rw [if_pos (.inl h)]
theorem chkE_2 {e:Est} (h:12<e.a.length):chkE e=2:=by unfold chkE;rw [if_pos (.inr h)]
theorem chkE_3 {e:Est} (h : ¬ 24<e.c.length) (h2 : ¬ 12<e.a.length) (h3:sg e.m.q<0):chkE e=7:=by unfold chkE;rw [if_neg (by omega),if_pos h3]
theorem chkE_4 {e:Est} {i:Nat} (h : ¬ 24<e.c.length) (h2 : ¬ 12<e.a.length) (h3 : ¬ sg e.m.q<0) (hi:i<e.c.length) (h4 : ∀ k,k<i→chkC (ix e.c k)=0) (h5:chkC (ix e.c i)≠0):chkE e=chkC (ix e.c i):=by
 have:=fnz_hit (f:=fun i=>chkC (ix e.c i)) h4 h5 hi
 unfold chkE;rw [if_neg (by omega),if_neg h3,if_pos (by rw [this];exact h5),this]
theorem chkE_5 {e:Est} {i:Nat} (h : ¬ 24<e.c.length) (h2 : ¬ 12<e.a.length) (h3 : ¬ sg e.m.q<0) (h4 : ∀ k,k<e.c.length→chkC (ix e.c k)=0) (hi:i<e.a.length) (h5 : ∀ k,k<i→chkA e.c.length (earA e.a k) (ix e.a k)=0) (h6:chkA e.c.length (earA e.a i) (ix e.a i)≠0):chkE e=chkA e.c.length (earA e.a i) (ix e.a i):=by
 unfold chkE;rw [if_neg (by omega),if_neg h3,if_neg (by rw [fnz_none (f:=fun i=>chkC (ix e.c i)) h4];simp),fnz_hit (f:=fun k=>chkA e.c.length (earA e.a k) (ix e.a k)) h5 h6 hi]
theorem chkE_6 {e:Est} (h : ¬ 24<e.c.length) (h2 : ¬ 12<e.a.length) (h3 : ¬ sg e.m.q<0) (h4 : ∀ k,k<e.c.length→chkC (ix e.c k)=0) (h5 : ∀ k,k<e.a.length→chkA e.c.length (earA e.a k) (ix e.a k)=0):chkE e=0:=by
 unfold chkE;rw [if_neg (by omega),if_neg h3,if_neg (by rw [fnz_none (f:=fun i=>chkC (ix e.c i)) h4];simp),fnz_none (f:=fun k=>chkA e.c.length (earA e.a k) (ix e.a k)) h5]
set_option maxRecDepth 100000 in
theorem rcheckestate_any (p:Nat→Prop) (e:Est) (cv av:Value) (w:World) (hC:RClaims w p cv e.c) (hA:RAgrs w p av e.a) (hs:SmallE 134217728 e) :
  Calls Tryz.prog 79 #[e.v cv av] w fun x w'=>x = .returned (.int .i64 (chkE e))∧Below w.heap.size w w':=by
 obtain ⟨a1,c1,rfl,-,-⟩:=hC.plain.form
 have HC:=Lib.hid hC.plain
 have HA0:=Lib.hid hA
 have HSG0:=Lib.hid (fun w=>rsign_r3 e.m w hs.m)
 have HFC:=Lib.hid hs.c
 have lc:=hs.lc
 have la:=hs.la
 have HG:=Lib.hid (fun k (hk:k<e.a.length) w (h:RAgrs w p av e.a)=>agreement_any p (.bool e.m.n) (.string e.m.s) (.string e.m.d) a1 e.c.length c1 av e.a k w h hk hs.lt hs.lp hs.la hs.lc hs.a)
 obtain ⟨aa,ca,rfl,-,-⟩:=(show ∃ aa ca,av = .slice aa e.a.length ca∧True∧True from by obtain ⟨G,hS,-⟩:=hA;obtain ⟨x,y,h,-,-⟩:=hS.form;exact ⟨x,y,h,trivial,trivial⟩)
 have E1:=Lib.hid (fun h=>chkE_1 (e:=e) h)
 have E2:=Lib.hid (fun h=>chkE_2 (e:=e) h)
 have E3:=Lib.hid (fun h h2 h3=>chkE_3 (e:=e) h h2 h3)
 have E4:=Lib.hid (fun i h h2 h3 h4 h5 h6=>chkE_4 (e:=e) (i:=i) h h2 h3 h4 h5 h6)
 have E5:=Lib.hid (fun i h h2 h3 h4 h5 h6 h7=>chkE_5 (e:=e) (i:=i) h h2 h3 h4 h5 h6 h7)
 have E6:=Lib.hid (fun h h2 h3 h4 h5=>chkE_6 (e:=e) h h2 h3 h4 h5)
 unfold Est.v
 clear hs hC hA
 generalize chkE e=R at *
 generalize hca:(fun i=>chkA e.c.length (earA e.a i) (ix e.a i))=CA at *
 have hcaa : ∀ i,chkA e.c.length (earA e.a i) (ix e.a i)=CA i:=fun i=>by rw [← hca]
 simp only [hcaa] at HG E5 E6
 clear hca hcaa
 generalize hcl:e.c=cl at *
 generalize hal:e.a=al at *
 generalize e.m=m at *
 clear hcl hal
 generalize sg m.q=sm at *
 generalize m.n=mn at *
 generalize m.s=ms at *
 generalize m.d=md at *
 generalize hnc:cl.length=nc at *
 generalize hna:al.length=na at *
 by_cases g1:24<nc
 ·have HR:=Lib.hid (E1.out g1)
  have d1:decide (24<nc)=true:=decide_eq_true g1
  have d1' : decide ((24:Int)<(nc:Int))=true:=by simp;omega
  clear E1 E2 E3 E4 E5 E6
  go_enter Tryz.func79,Tryz.ntmps79
  go_wp2
  go_ret
  exact ⟨ret_int HR.out.symm,(Below.refl _ _).alloc (Nat.le_refl _) _⟩
 ·have d1:decide (24<nc)=false:=decide_eq_false g1
  have d1' : decide ((24:Int)<(nc:Int))=false:=by simp;omega
  by_cases g2:12<na
  ·have HR:=Lib.hid (E2.out g2)
   have d2:decide (12<na)=true:=decide_eq_true g2
   have d2' : decide ((12:Int)<(na:Int))=true:=by simp;omega
   clear E1 E2 E3 E4 E5 E6
   go_enter Tryz.func79,Tryz.ntmps79
   go_wp2
   go_ret
   exact ⟨ret_int HR.out.symm,(Below.refl _ _).alloc (Nat.le_refl _) _⟩
  ·have d2:decide (12<na)=false:=decide_eq_false g2
   have d2' : decide ((12:Int)<(na:Int))=false:=by simp;omega
   have E3:=Lib.hid (E3.out g1 g2)
   have E4:=Lib.hid (fun i=>E4.out i g1 g2)
   have E5:=Lib.hid (fun i=>E5.out i g1 g2)
   have E6:=Lib.hid (E6.out g1 g2)
   clear E1 E2
   go_enter Tryz.func79,Tryz.ntmps79
   go_wp2_with fail
   refine (HSG0.out _).mono ?_;rintro x w1 ⟨rfl,hb1⟩
   obtain ⟨J0,HB⟩:=boxes1 hb1
   have J0:=Lib.hid J0
   have HB:=Lib.hid HB
   clear hb1
   by_cases g3:sm<0
   ·have d3:decide (sm<0)=true:=decide_eq_true g3
    have HR:=Lib.hid (E3.out (by omega))
    clear E3 E4 E5 E6
    go_wp2
    go_ret
    exact ⟨ret_int HR.out.symm,HB.out⟩
   ·have d3:decide (sm<0)=false:=decide_eq_false g3
    have E4:=Lib.hid (fun i=>E4.out i (by omega))
    have E5:=Lib.hid (fun i=>E5.out i (by omega))
    have E6:=Lib.hid (E6.out (by omega))
    clear E3
    go_wp2_with fail
    go_loopw [3] (fun i wr=>∃ t:Nat,i = .int .i64 t∧t≤nc∧Blk wr w.heap.size #[.bool mn,.string ms,.string md,.slice a1 nc c1,.slice aa na ca]∧Below w.heap.size w wr∧Hid (∀ i,i<t→chkC (ix cl i)=0)) (fun i _=>nc - (intOf i).toNat)
    case atStart=>exact ⟨0,rfl,by omega,J0.out,HB.out,fun i hi=>by omega⟩
    case round =>
     obtain ⟨t,rfl,ht,K0,hbt,hst⟩:=hrel
     have J0:=Lib.hid K0
     have HB:=Lib.hid hbt
     have k3:wr.cell? ⟨w.heap.size,3,none⟩=some (.slice a1 nc c1):=K0.cell 3
     have hz:=hbt.size
     clear K0 hbt
     by_cases hlt:t<nc
     ·obtain ⟨b3,off3,rfl,-,-,-⟩:=HC.out.get (by omega)
      have e0:=HC.out.cellAt rfl HB.out (i:=t) (j:=0) hlt (by omega)
      have e1:wr.cell? ⟨b3,off3+t*5+1,none⟩=some (.int .i64 (ix cl t).r):=HC.out.cellAt rfl HB.out (i:=t) (j:=1) hlt (by omega)
      have e2:wr.cell? ⟨b3,off3+t*5+2,none⟩=some (.bool (ix cl t).a.n):=HC.out.cellAt rfl HB.out (i:=t) (j:=2) hlt (by omega)
      have e3:wr.cell? ⟨b3,off3+t*5+3,none⟩=some (.string (ix cl t).a.s):=HC.out.cellAt rfl HB.out (i:=t) (j:=3) hlt (by omega)
      have e4:wr.cell? ⟨b3,off3+t*5+4,none⟩=some (.string (ix cl t).a.d):=HC.out.cellAt rfl HB.out (i:=t) (j:=4) hlt (by omega)
      rw [Nat.add_zero] at e0
      have e0' : wr.cell? ⟨b3,off3+t*5,none⟩=some (.int .i64 (ix cl t).h):=e0
      have HH:=Lib.hid (E4.out t hlt hst.out)
      have HN:=Lib.hid (fun h=>all_next (p:=fun i=>chkC (ix cl i)=0) hst.out h)
      have ht1:(0:Int)≤(t:Int):=by omega
      have ht2:(t:Int)<(nc:Int):=by omega
      have fr:=HFC.out t hlt
      clear e0 hst E4 E5 E6 HFC HG HA0
      generalize ix cl t=P at *
      obtain ⟨h,r,a⟩:=P
      simp only at e0' e1 e2 e3 e4 HH HN fr
      have HSG:=Lib.hid (fun w=>rsign_r3 a w fr)
      have F1:=Lib.hid (fun (h1:h < -1)=>(HH.out (by rw [chkC_1 h1];omega)).trans (chkC_1 h1))
      have F2:=Lib.hid (fun (h1:8≤h)=>(HH.out (by rw [chkC_2 h1];omega)).trans (chkC_2 h1))
      have F3:=Lib.hid (fun (h1 : ¬ h < -1) (h2 : ¬ 8≤h) (h3:r<0)=>(HH.out (by rw [chkC_3 h1 h2 h3];omega)).trans (chkC_3 h1 h2 h3))
      have F4:=Lib.hid (fun (h1 : ¬ h < -1) (h2 : ¬ 8≤h) (h3:7<r)=>(HH.out (by rw [chkC_4 h1 h2 h3];omega)).trans (chkC_4 h1 h2 h3))
      have F5:=Lib.hid (fun (h1 : ¬ h < -1) (h2 : ¬ 8≤h) (h3 : ¬ r<0) (h4 : ¬ 7<r) (h5:sg a.q<0)=>(HH.out (by rw [chkC_5 h1 h2 h3 h4 h5];omega)).trans (chkC_5 h1 h2 h3 h4 h5))
      have F6:=Lib.hid (fun (h1 : ¬ h < -1) (h2 : ¬ 8≤h) (h3 : ¬ r<0) (h4 : ¬ 7<r) (h5 : ¬ sg a.q<0)=>HN.out (chkC_6 h1 h2 h3 h4 h5))
      clear HH HN
      generalize sg a.q=s at *
      generalize a.n=an at *
      generalize a.s=as' at *
      generalize a.d=ad at *
      obtain ⟨z0,z1,z2,z3,z4⟩:=(J0.out.alloc (.cells #[.int .i64 h,.int .i64 r,.bool an,.string as',.string ad] 79)).c5
      by_cases h1:h < -1
      ·have dh1:decide (h < -1)=true:=decide_eq_true h1
       have HR:=Lib.hid (F1.out h1)
       clear F1 F2 F3 F4 F5 F6
       go_wp2
       go_ret
       exact ⟨ret_int HR.out.symm,HB.out.alloc (by omega) _⟩
      ·have dh1:decide (h < -1)=false:=decide_eq_false h1
       by_cases h2:8≤h
       ·have dh2:decide (8≤h)=true:=decide_eq_true h2
        have HR:=Lib.hid (F2.out h2)
        clear F1 F2 F3 F4 F5 F6
        go_wp2
        go_ret
        exact ⟨ret_int HR.out.symm,HB.out.alloc (by omega) _⟩
       ·have dh2:decide (8≤h)=false:=decide_eq_false h2
        by_cases h3:r<0
        ·have dh3:decide (r<0)=true:=decide_eq_true h3
         have HR:=Lib.hid (F3.out h1 h2 h3)
         clear F1 F2 F3 F4 F5 F6
         go_wp2
         go_ret
         exact ⟨ret_int HR.out.symm,HB.out.alloc (by omega) _⟩
        ·have dh3:decide (r<0)=false:=decide_eq_false h3
         by_cases h4:7<r
         ·have dh4:decide (7<r)=true:=decide_eq_true h4
          have HR:=Lib.hid (F4.out h1 h2 h4)
          clear F1 F2 F3 F4 F5 F6
          go_wp2
          go_ret
          exact ⟨ret_int HR.out.symm,HB.out.alloc (by omega) _⟩
         ·have dh4:decide (7<r)=false:=decide_eq_false h4
          by_cases h5:s<0
          ·have dh5:decide (s<0)=true:=decide_eq_true h5
           have HR:=Lib.hid (F5.out h1 h2 h3 h4 h5)
           clear F1 F2 F3 F4 F5 F6
           go_wp2_with fail
           refine (HSG.out _).mono ?_;rintro e w3 ⟨rfl,hb3⟩
           obtain ⟨-,hbw⟩:=boxes1 hb3
           have J0:=Lib.hid (J0.out.on hbw)
           have HB:=Lib.hid (chain HB.out hbw (Nat.le_refl _))
           clear hb3 hbw z0 z1 z2 z3 z4 k3 e0' e1 e2 e3 e4
           go_wp2
           go_ret
           exact ⟨ret_int HR.out.symm,HB.out⟩
          ·have dh5:decide (s<0)=false:=decide_eq_false h5
           have HX:=Lib.hid (F6.out h1 h2 h3 h4 h5)
           clear F1 F2 F3 F4 F5 F6
           go_wp2_with fail
           refine (HSG.out _).mono ?_;rintro e w3 ⟨rfl,hb3⟩
           obtain ⟨-,hbw⟩:=boxes1 hb3
           have J0:=Lib.hid (J0.out.on hbw)
           have HB:=Lib.hid (chain HB.out hbw (Nat.le_refl _))
           clear hb3 hbw z0 z1 z2 z3 z4 k3 e0' e1 e2 e3 e4
           go_wp2
           go_roundw
           case rel=>exact ⟨t+1,by go_num,by omega,J0.out,HB.out,HX.out⟩
           case measure=>simp [intOf];omega
     ·obtain rfl:t=nc:=by omega
      have hnl:decide ((t:Int)<(t:Int))=false:=by simp
      have E5:=Lib.hid (fun i=>E5.out i hst.out)
      have E6:=Lib.hid (E6.out hst.out)
      clear E4 hst
      go_wp2_with fail
      go_loopw [5,6] (fun i _ wr=>∃ q:Nat,i = .int .i64 q∧q≤na∧Blk wr w.heap.size #[.bool mn,.string ms,.string md,.slice a1 t c1,.slice aa na ca]∧Below w.heap.size w wr∧Hid (∀ i,i<q→CA i=0)) (fun i _ _=>na - (intOf i).toNat)
      case atStart=>exact ⟨0,rfl,by omega,J0.out,HB.out,fun i hi=>by omega⟩
      case round =>
       obtain ⟨q,rfl,hq,K0,hbq,hsq⟩:=hrel
       have J0:=Lib.hid K0
       have HB:=Lib.hid hbq
       obtain ⟨m0,m1,m2,m3,m4⟩:=K0.c5
       clear K0 hbq
       by_cases hlq:q<na
       ·have HGQ:=Lib.hid (HG.out q hlq _ (HA0.out.on HB.out))
        have HE5:=Lib.hid (E5.out q hlq hsq.out)
        have HN:=Lib.hid (fun h=>all_next (p:=fun i=>CA i=0) hsq.out h)
        have i1:(0:Int)≤(q:Int):=by omega
        have i2:(q:Int)<(na:Int):=by omega
        clear hsq HG E5 E6
        generalize CA q=x at *
        go_wp2_with fail
        refine (HGQ.out).mono ?_;rintro e w4 ⟨rfl,hb4⟩
        have J0:=Lib.hid (J0.out.on hb4)
        have HB:=Lib.hid (chain HB.out hb4 (Nat.le_refl _))
        clear hb4 m0 m1 m2 m3 m4
        by_cases hx:x=0
        ·subst hx
         have HX:=Lib.hid (HN.out rfl)
         clear HN HE5
         go_wp2
         go_roundw
         case rel=>exact ⟨q+1,by go_num,by omega,J0.out,HB.out,HX.out⟩
         case measure=>simp [intOf];omega
        ·have HR:=Lib.hid (HE5.out hx)
         have hx2:(x != 0)=true:=by simp [hx]
         have hx3:(x == 0)=false:=by simp [hx]
         clear HN HE5
         go_wp2
         go_ret
         exact ⟨ret_int HR.out.symm,HB.out⟩
       ·obtain rfl:q=na:=by omega
        have HR:=Lib.hid (E6.out hsq.out)
        have hnl:decide ((q:Int)<(q:Int))=false:=by simp
        go_wp2
        go_ret
        exact ⟨ret_int HR.out.symm,HB.out⟩
def lgEq (y x:Lg):Bool:=y.e == x.e && y.k == x.k
def fndK (t:List Lg) (x:Lg):Nat→Option Nat
 | 0=>none
 | k+1=>match fndK t x k with
  | some i=>some i
  | none=>if lgEq (ix t k) x=true then some k else none
def fndD (l:List Dbt) (x:Lg):Nat→Option (Nat×Nat)
 | 0=>none
 | d+1=>match fndD l x d with
  | some r=>some r
  | none=>(fndK (ix l d).l x (ix l d).l.length).map fun k=>(d,k)
theorem fndK_none {t:List Lg} {x:Lg} : ∀ {n:Nat},fndK t x n=none↔∀ k,k<n→lgEq (ix t k) x=false
 | 0=>⟨fun _ k hk=>by omega,fun _=>rfl⟩
 | n+1=>by
  unfold fndK
  constructor
  ·intro h k hk
   cases hf:fndK t x n with
   | some i=>rw [hf] at h;cases h
   | none =>
    rw [hf] at h
    by_cases e:k=n
    ·subst e
     cases hb:lgEq (ix t k) x
     ·rfl
     ·simp [hb] at h
    ·exact fndK_none.mp hf k (by omega)
  ·intro h
   rw [fndK_none.mpr fun k hk=>h k (by omega)]
   simp [h n (by omega)]
theorem fndK_hit {t:List Lg} {x:Lg} {k:Nat} (h : ∀ i,i<k→lgEq (ix t i) x=false) (h2:lgEq (ix t k) x=true) : ∀ {n:Nat},k<n→fndK t x n=some k
 | 0,hk=>by omega
 | n+1,hk=>by
  unfold fndK
  by_cases e:k=n
  ·subst e;rw [fndK_none.mpr h];simp [h2]
  ·rw [fndK_hit h h2 (show k<n by omega)]
theorem fndD_none {l:List Dbt} {x:Lg} : ∀ {n:Nat},fndD l x n=none↔∀ d,d<n→fndK (ix l d).l x (ix l d).l.length=none
 | 0=>⟨fun _ k hk=>by omega,fun _=>rfl⟩
 | n+1=>by
  unfold fndD
  constructor
  ·intro h k hk
   cases hf:fndD l x n with
   | some i=>rw [hf] at h;cases h
   | none =>
    rw [hf] at h
    by_cases e:k=n
    ·subst e;simpa using h
    ·exact fndD_none.mp hf k (by omega)
  ·intro h
   rw [fndD_none.mpr fun k hk=>h k (by omega)]
   simp [h n (by omega)]
theorem fndD_hit {l:List Dbt} {x:Lg} {d k:Nat} (h : ∀ i,i<d→fndK (ix l i).l x (ix l i).l.length=none) (h1 : ∀ i,i<k→lgEq (ix (ix l d).l i) x=false) (h2:lgEq (ix (ix l d).l k) x=true) (hk:k<(ix l d).l.length) : ∀ {n:Nat},d<n→fndD l x n=some (d,k)
 | 0,hd=>by omega
 | n+1,hd=>by
  unfold fndD
  by_cases e:d=n
  ·subst e;rw [fndD_none.mpr h,fndK_hit h1 h2 hk];rfl
  ·rw [fndD_hit h h1 h2 hk (show d<n by omega)]
def legV:Option (Nat×Nat)→Value
 | none=>.tuple #[.int .i64 0,.int .i64 0,.bool false]
 | some (d,k)=>.tuple #[.int .i64 (d:Int),.int .i64 (k:Int),.bool true]
set_option maxRecDepth 100000 in
theorem leg_any (p:Nat→Prop) (ev dv:Value) (l:List Dbt) (x:Lg) (w:World) (hD:RDbts w p dv l) (ld:l.length≤140737488351232) (ll : ∀ i,i<l.length→(ix l i).l.length≤140737488351232) :
  Calls Tryz.prog 134 #[.agg #[ev,dv],.int .i64 x.e,.int .i64 x.k] w fun e w'=>e = .returned (legV (fndD l x l.length))∧Below w.heap.size w w':=by
 obtain ⟨G,hS,hQ⟩:=hD
 obtain ⟨aa,cap,rfl,-,-⟩:=hS.form
 have HHIT:=Lib.hid (fun d k h h1 h2 hk (hd:d<l.length)=>fndD_hit (l:=l) (x:=x) (d:=d) (k:=k) h h1 h2 hk hd)
 have HNO:=Lib.hid (fun h=>(fndD_none (l:=l) (x:=x) (n:=l.length)).mpr h)
 have HK:=Lib.hid (fun d=>(fndK_none (t:=(ix l d).l) (x:=x) (n:=(ix l d).l.length)).mpr)
 have HS:=Lib.hid hS
 have HQ:=Lib.hid hQ
 have HLL:=Lib.hid ll
 generalize hF:fndD l x l.length=F at *
 clear hF hS hQ ll
 have hq : ∀ y:Lg,lgEq y x=(y.e == x.e && y.k == x.k):=fun y=>rfl
 have HEQ:=Lib.hid hq
 generalize hxe:x.e=xe at *
 generalize hxk:x.k=xk at *
 generalize hfk:(fun d=>fndK (ix l d).l x (ix l d).l.length)=FK at *
 have hfk' : ∀ d,fndK (ix l d).l x (ix l d).l.length=FK d:=fun d=>by rw [← hfk]
 simp only [hfk'] at HHIT HNO HK
 generalize hle:(fun y=>lgEq y x)=LE at *
 have hle' : ∀ y,lgEq y x=LE y:=fun y=>by rw [← hle]
 simp only [hle'] at HHIT HNO HK HEQ
 clear hfk hfk' hle hle' hxe hxk hq
 generalize hn:l.length=n at *
 go_enter Tryz.func134,Tryz.ntmps134
 go_wp2_with fail
 refine wp_forget (fun W=>Blk W w.heap.size #[ev,.slice aa n cap]∧Below w.heap.size w W) ⟨Blk.new _ _ _,(Below.refl _ _).alloc (Nat.le_refl _) _⟩ ?_
 rintro W ⟨hb0,hbel⟩
 have k1:W.cell? ⟨w.heap.size,1,none⟩=some (.slice aa n cap):=hb0.cell 1
 have HB:=Lib.hid hbel
 clear hbel hb0
 go_loopw [9,10] (fun i _ wr=>∃ k:Nat,i = .int .i64 k∧k≤n∧wr=W∧Hid (∀ i,i<k→FK i=none)) (fun i _ _=>n - (intOf i).toNat)
 case atStart=>exact ⟨0,rfl,by omega,rfl,fun i hi=>by omega⟩
 case round =>
  obtain ⟨k,rfl,hk,rfl,hs⟩:=hrel
  by_cases hlt:k<n
  ·obtain ⟨b,off,rfl,-,-,-⟩:=HS.out.get (by omega)
   have c0:=HS.out.cellAt rfl HB.out (i:=k) (j:=3) hlt (by omega)
   obtain ⟨v2,hG,hR⟩:=HQ.out k hlt
   obtain ⟨a2,cap2,rfl,-,-⟩:=hR.plain.form
   rw [hG] at c0
   have c1:wr.cell? ⟨b,off+k*4+3,none⟩=some (.slice a2 (ix l k).l.length cap2):=c0
   have l2:=HLL.out k hlt
   have HP:=Lib.hid hR.plain
   have HHK:=Lib.hid (fun j h1 h2 h3=>HHIT.out k j hs.out h1 h2 h3 hlt)
   have HKK:=Lib.hid (HK.out k)
   have i1:(0:Int)≤(k:Int):=by omega
   have i2:(k:Int)<(n:Int):=by omega
   have HSN:=Lib.hid (fun h=>all_next (p:=fun i=>FK i=none) hs.out h)
   clear c0 hR hG hs HHIT HK
   generalize FK k=fk at *
   generalize hn2:(ix l k).l.length=n2 at *
   generalize hak:(ix l k).l=ak at *
   clear hak
   go_wp2_with fail
   go_loopw [10] (fun i wr'=>∃ j:Nat,i = .int .i64 j∧j≤n2∧wr' = wr∧Hid (∀ i,i<j→LE (ix ak i)=false)) (fun i _=>n2 - (intOf i).toNat)
   case atStart=>exact ⟨0,rfl,by omega,rfl,fun i hi=>by omega⟩
   case round =>
    obtain ⟨j,rfl,hj,rfl,hs2⟩:=hrel
    by_cases hlj:j<n2
    ·obtain ⟨b2,off2,rfl,-,-,-⟩:=HP.out.get (by omega)
     have d0:=HP.out.cellAt rfl HB.out (i:=j) (j:=0) hlj (by omega)
     have d2:=HP.out.cellAt rfl HB.out (i:=j) (j:=1) hlj (by omega)
     rw [Nat.add_zero] at d0
     have d1:=(show _=some (Value.int .i64 (ix ak j).e) from d0)
     have d3:=(show _=some (Value.int .i64 (ix ak j).k) from d2)
     have j1:(0:Int)≤(j:Int):=by omega
     have j2:(j:Int)<(n2:Int):=by omega
     have HYJ:=Lib.hid (fun h=>HHK.out j hs2.out h (by omega))
     have HSJ:=Lib.hid (fun h=>all_next (p:=fun i=>LE (ix ak i)=false) hs2.out h)
     have hq:=HEQ.out (ix ak j)
     clear d0 d2 hs2 HHK
     generalize LE (ix ak j)=lb at *
     generalize (ix ak j).e=ye at *
     generalize (ix ak j).k=yk at *
     by_cases h1:ye=xe
     ·subst h1
      by_cases h2:yk=xk
      ·subst h2
       have HR:=Lib.hid (HYJ.out (by rw [hq];simp))
       clear hq HSJ HYJ HSN HKK
       go_wp2
       exact bodyPost_ret (v:=.tuple #[.int .i64 (k:Int),.int .i64 (j:Int),.bool true]) (by simp [results,Tryz.results134,go_sem]) rfl ⟨by rw [HR.out];rfl,HB.out⟩
      ·have HX:=Lib.hid (HSJ.out (by rw [hq];simp [h2]))
       have g1:(yk == xk)=false:=by simp [h2]
       clear hq HSJ HYJ
       go_wp2
       go_roundw
       case rel=>exact ⟨j+1,by go_num,by omega,by simp,HX.out⟩
       case measure=>simp [intOf];omega
     ·have HX:=Lib.hid (HSJ.out (by rw [hq];simp [h1]))
      have g1:(ye == xe)=false:=by simp [h1]
      clear hq HSJ HYJ
      go_wp2
      go_roundw
      case rel=>exact ⟨j+1,by go_num,by omega,by simp,HX.out⟩
      case measure=>simp [intOf];omega
    ·obtain rfl:j=n2:=by omega
     have HZ:=Lib.hid (HSN.out (HKK.out hs2.out))
     have hnl:decide ((j:Int)<(j:Int))=false:=by simp
     go_wp2
     go_roundw
     case rel=>exact ⟨k+1,by go_num,by omega,by simp,HZ.out⟩
     case measure=>simp [intOf];omega
  ·obtain rfl:k=n:=by omega
   have HZ:=Lib.hid (HNO.out hs.out)
   have hnl:decide ((k:Int)<(k:Int))=false:=by simp
   go_wp2
   exact bodyPost_ret (v:=.tuple #[.int .i64 0,.int .i64 0,.bool false]) (by simp [results,Tryz.results134,go_sem]) rfl ⟨by rw [HZ.out];rfl,HB.out⟩
end Go.Proofs.Ins
