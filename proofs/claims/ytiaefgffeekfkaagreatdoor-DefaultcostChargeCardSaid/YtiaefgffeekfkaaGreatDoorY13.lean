/- What each law's row wants of its walk. -/
import Derived.Test.YtiaefgffeekfkaaGreatDoorY12
import Derived.OrdersHeld
import Derived.LaidMore
import Derived.Stop.Joined
import Derived.Test.YtiaefgffeekfkaaGreatDoorCards
import Derived.Lay
import Derived.SevenTiedAt
set_option linter.unusedSimpArgs false
set_option linter.unusedVariables false
set_option maxHeartbeats 8000000
namespace Go.Proofs.Ins
open Go.RowKit
set_option maxRecDepth 100000 in
theorem plus_left (p1:Bool) (p3:ByteArray) (q1:Bool) (q2 q3:ByteArray) (w:World) :
  Calls Tryz.prog 94 #[.agg #[.bool p1,.string ⟨#[]⟩,.string p3],.agg #[.bool q1,.string q2,.string q3]] w fun e w'=>e = .returned (.agg #[.bool q1,.string q2,.string q3])∧Below w.heap.size w w':=by
 go_enter Tryz.func94,Tryz.ntmps94
 go_wp2
 exact bodyPost_ret (v:=.agg #[.bool q1,.string q2,.string q3]) (by simp [results,Tryz.results94,go_sem]) rfl ⟨rfl,(three_boxes w _ _ _ _ _ _).2.2.2⟩
set_option maxRecDepth 100000 in
theorem plus_right (p1:Bool) (p2 p3:ByteArray) (q1:Bool) (q3:ByteArray) (w:World) (h1:p2.toList.isEmpty=false) (h2 : ¬ p2.toList=[]) :
  Calls Tryz.prog 94 #[.agg #[.bool p1,.string p2,.string p3],.agg #[.bool q1,.string ⟨#[]⟩,.string q3]] w fun e w'=>e = .returned (.agg #[.bool p1,.string p2,.string p3])∧Below w.heap.size w w':=by
 go_enter Tryz.func94,Tryz.ntmps94
 go_wp2
 exact bodyPost_ret (v:=.agg #[.bool p1,.string p2,.string p3]) (by simp [results,Tryz.results94,go_sem]) rfl ⟨rfl,(three_boxes w _ _ _ _ _ _).2.2.2⟩
theorem rplus_any (p q:Rat) (k:Nat) (w:World) (hp:Sm k p) (hq:Sm k q) (hk:k≤268435456) :
  Calls Tryz.prog 94 #[.agg #[.bool (rn p),.string (rs p),.string (rd p)],.agg #[.bool (rn q),.string (rs q),.string (rd q)]] w fun e w'=>e = .returned (.agg #[.bool (rn (p+q)),.string (rs (p+q)),.string (rd (p+q))])∧Below w.heap.size w w':=by
 by_cases h1:p=0
 ·subst h1;rw [Rat.zero_add];exact plus_left _ _ _ _ _ w
 ·by_cases h2:q=0
  ·subst h2;rw [Rat.add_zero];exact plus_right _ _ _ _ _ w (rs_ne h1).1 (rs_ne h1).2
  ·exact plus_pos _ _ _ _ _ _ _ _ _ _ _ _ _ _ (pluC_of p q k hp hq hk) hk (rs_ne h1).1 (rs_ne h1).2 (rs_ne h2).1 (rs_ne h2).2 w
set_option maxRecDepth 100000 in
theorem signum_any (q:Rat) (w:World) :
  Calls Tryz.prog 72 #[.agg #[.bool (rn q),.string (rs q),.string (rd q)]] w fun e w'=>e = .returned (.int .i64 (sg q))∧Below w.heap.size w w':=by
 by_cases h:nm q=0
 ·have e:=nm_zero.mp h
  subst e
  rw [sg_zero h,rn_zero,rs_zero,rd_zero]
  clear h
  go_enter Tryz.func72,Tryz.ntmps72
  go_wp2
  go_ret
  exact ⟨rfl,(Below.refl _ _).alloc (Nat.le_refl _) _⟩
 ·obtain ⟨h1,h2⟩:=bn_ne (x:=nm q) (by omega)
  have e:rs q=bn (nm q):=rfl
  rw [e]
  generalize bn (nm q)=t at *
  cases hn:rn q
  ·rw [sg_pos hn h]
   clear h hn e
   go_enter Tryz.func72,Tryz.ntmps72
   go_wp2
   go_ret
   exact ⟨rfl,(Below.refl _ _).alloc (Nat.le_refl _) _⟩
  ·rw [sg_neg hn]
   clear h hn e
   go_enter Tryz.func72,Tryz.ntmps72
   go_wp2
   go_ret
   exact ⟨rfl,(Below.refl _ _).alloc (Nat.le_refl _) _⟩
set_option maxRecDepth 100000 in
theorem opposite_any (q:Rat) (w:World) :
  Calls Tryz.prog 122 #[.agg #[.bool (rn q),.string (rs q),.string (rd q)]] w fun e w'=>e = .returned (.agg #[.bool (rn (-q)),.string (rs (-q)),.string (rd (-q))])∧Below w.heap.size w w':=by
 by_cases h:q=0
 ·subst h
  rw [Rat.neg_zero,rn_zero,rs_zero,rd_zero]
  go_enter Tryz.func122,Tryz.ntmps122
  go_wp2
  exact bodyPost_ret (v:=.agg #[.bool false,.string ⟨#[]⟩,.string ⟨#[]⟩]) (by simp [results,Tryz.results122,go_sem]) rfl ⟨rfl,(two_boxes w _ _ _ _).2.2⟩
 ·rw [rn_neg (fun e=>h (nm_zero.mp e)),rs_neg,rd_neg]
  obtain ⟨h1,h2⟩:=rs_ne h
  generalize rn q=n at *
  generalize rs q=s at *
  generalize rd q=d at *
  clear h
  go_enter Tryz.func122,Tryz.ntmps122
  go_wp2
  refine bodyPost_forget (fun W=>Blk W (w.heap.size+1) #[.bool (!n),.string s,.string d]∧Below w.heap.size w W) ⟨by exact (two_boxes _ _ _ _ _).2.1,by exact (two_boxes w _ _ _ _).2.2⟩ ?_
  rintro WR ⟨hr9,hb9⟩
  obtain ⟨y90,y91,y92,-,-,-⟩:=hr9.get3
  exact bodyPost_ret (v:=.agg #[.bool (!n),.string s,.string d]) (by simp [results,Tryz.results122,go_sem,y90,y91,y92]) rfl ⟨rfl,hb9⟩
def ltB (p q:Rat):Bool:=decide (p<q)
set_option maxRecDepth 100000 in
theorem rminus_any (p q:Rat) (k:Nat) (w:World) (hp:Sm k p) (hq:Sm k q) (hk:k≤268435456) :
  Calls Tryz.prog 73 #[.agg #[.bool (rn p),.string (rs p),.string (rd p)],.agg #[.bool (rn q),.string (rs q),.string (rd q)]] w fun e w'=>e = .returned (.agg #[.bool (rn (p - q)),.string (rs (p - q)),.string (rd (p - q))])∧Below w.heap.size w w':=by
 have HO:=Lib.hid (fun w=>opposite_any q w)
 have HP:=Lib.hid (fun w=>rplus_any p (-q) k w hp hq.neg hk)
 rw [← Rat.sub_eq_add_neg] at HP
 generalize p - q=r at *
 generalize rn r=r1 at *
 generalize rs r=r2 at *
 generalize rd r=r3 at *
 generalize rn (-q)=o1 at *
 generalize rs (-q)=o2 at *
 generalize rd (-q)=o3 at *
 generalize rn p=p1 at *
 generalize rs p=p2 at *
 generalize rd p=p3 at *
 generalize rn q=q1 at *
 generalize rs q=q2 at *
 generalize rd q=q3 at *
 go_enter Tryz.func73,Tryz.ntmps73
 go_wp2
 refine wp_forget (fun W=>Blk W w.heap.size #[.bool p1,.string p2,.string p3]∧Blk W (w.heap.size+1) #[.bool q1,.string q2,.string q3]∧Blk W (w.heap.size+1+1) #[.bool false,.string ⟨#[]⟩,.string ⟨#[]⟩]∧Below w.heap.size w W) (three_boxes w _ _ _ _ _ _) ?_
 rintro W ⟨H1,H2,H3,HB⟩
 obtain ⟨k0,k1,k2⟩:=H1.later3
 obtain ⟨k3,k4,k5⟩:=H2.later3
 refine wp_region_qbt 4 (by kernel_rfl) (by kernel_rfl) ?_
 simp only [List.take_succ_cons,List.take_zero,List.drop_succ_cons,List.drop_zero]
 repeat (first|go_big_quiet_skip|quiet_step (first|with_reducible exact Calls.later (HO.out _)|with_reducible exact Calls.later (HP.out _)))
 clear k0 k1 k2 k3 k4 k5
 refine wpQuiet_nil ?_
 intro W1 hb1
 have HB:=Lib.hid (chain HB hb1 (Nat.le_refl _))
 have H2:=Lib.hid (H3.on hb1)
 obtain ⟨a0,a1,a2,a3,a4,a5⟩:=H2.out.get3
 clear hb1 H3 H1
 go_wp2
 refine bodyPost_forget (fun W=>Blk W (w.heap.size+1+1) #[.bool r1,.string r2,.string r3]∧Below w.heap.size w W) ⟨by exact Blk.set3 H2.out _ _ _,below_set3 HB.out (by omega) _ _ _⟩ ?_
 rintro WR ⟨hr9,hb9⟩
 obtain ⟨y90,y91,y92,-,-,-⟩:=hr9.get3
 exact bodyPost_ret (v:=.agg #[.bool r1,.string r2,.string r3]) (by simp [results,Tryz.results73,go_sem,y90,y91,y92]) rfl ⟨rfl,hb9⟩
def lesR (p q:Rat):Rat:=if q<p then q else p
set_option maxRecDepth 100000 in
theorem rsign_any (n:Bool) (s d:ByteArray) (w:World) (hs:s.size≤134217728) (hd:d.size≤134217728) :
  Calls Tryz.prog 81 #[.agg #[.bool n,.string s,.string d]] w fun e w'=>e = .returned (.int .i64 (sg (rq n s d)))∧Below w.heap.size w w':=by
 have HC:=Lib.hid (fun w=>fix_agg n s d w (by omega) (by omega))
 generalize rq n s d=q at *
 have HS:=Lib.hid (fun w=>signum_any q w)
 generalize sg q=i at *
 go_enter Tryz.func81,Tryz.ntmps81
 go_wp2_with fail
 refine (HC.out _).mono ?_;rintro e w3 ⟨rfl,hb3⟩
 go_wp2_with fail
 refine (HS.out _).mono ?_;rintro e w4 ⟨rfl,hb4⟩
 obtain ⟨H2,HB⟩:=boxes1 (chain hb3 hb4 (Nat.le_refl _))
 have HB:=Lib.hid HB
 clear hb3 hb4
 go_wp2
 go_ret
 exact ⟨rfl,HB.out⟩
set_option maxRecDepth 100000 in
theorem size_any (i:Int) (w:World) (h1 : -9223372036854775808≤i) (h2:i≤9223372036854775807) :
  Calls Tryz.prog 112 #[.int .i64 i] w fun e w'=>e = .returned (.int .u64 (i.natAbs:Int))∧w=w':=by
 by_cases h:i<0
 ·have e1:IntKind.u64.wrap (IntKind.u64.wrap (-(i+1))+1)=((i.natAbs:Nat):Int):=by
   simp only [IntKind.wrap,IntKind.bits,IntKind.signed];simp;omega
  have HE:=Lib.hid e1
  have h3 : -(i+1)≤9223372036854775807:=by omega
  have h4:0≤-(i+1):=by omega
  have h5 : -(i+1)+1=(i.natAbs:Int):=by omega
  have HF:=Lib.hid h5
  clear h5 e1
  go_enter Tryz.func112,Tryz.ntmps112
  go_wp2
  go_ret
  exact ⟨ret_int (by first|exact HF.out|exact HE.out|omega),rfl⟩
 ·have e1:i=((i.natAbs:Nat):Int):=by omega
  have HE:=Lib.hid e1
  have h0:0≤i:=by omega
  clear e1
  go_enter Tryz.func112,Tryz.ntmps112
  go_wp2
  go_ret
  exact ⟨ret_int (by omega),rfl⟩
set_option maxRecDepth 100000 in
theorem rint_any (i:Int) (w:World) (h1 : -9223372036854775808≤i) (h2:i≤9223372036854775807) :
  Calls Tryz.prog 63 #[.int .i64 i] w fun e w'=>e = .returned (.agg #[.bool (rn (i:Rat)),.string (rs (i:Rat)),.string (rd (i:Rat))])∧Below w.heap.size w w':=by
 have e1:rn (i:Rat)=decide (i<0):=rfl
 have e2:rs (i:Rat)=bn i.natAbs:=rfl
 have e3:rd (i:Rat)=⟨#[]⟩:=rfl
 rw [e1,e2,e3]
 have HS:=Lib.hid (fun w=>size_any i w h1 h2)
 have HF:=Lib.hid (fun w=>rfromUint_any i.natAbs w (by omega))
 generalize bn i.natAbs=t at *
 generalize (i.natAbs:Int)=j at *
 clear e1 e2 e3
 go_enter Tryz.func63,Tryz.ntmps63
 go_wp2_with fail
 refine (HS.out _).mono ?_;rintro e w3 ⟨rfl,rfl⟩
 go_wp2_with fail
 refine (HF.out _).mono ?_;rintro e w3 ⟨rfl,hb3⟩
 obtain ⟨H2,HB⟩:=boxes1 hb3
 obtain ⟨b0,b1,b2,f0,f1,f2⟩:=H2.get3
 have HB:=Lib.hid HB
 have H2:=Lib.hid H2
 clear hb3
 go_wp2
 refine bodyPost_forget (fun W=>Blk W (w.heap.size) #[.bool (decide (i<0)),.string t,.string ⟨#[]⟩]∧Below w.heap.size w W) ⟨by exact Blk.set3 H2.out _ _ _,below_set3 HB.out (by omega) _ _ _⟩ ?_
 rintro WR ⟨hr9,hb9⟩
 obtain ⟨y90,y91,y92,-,-,-⟩:=hr9.get3
 exact bodyPost_ret (v:=.agg #[.bool (decide (i<0)),.string t,.string ⟨#[]⟩]) (by simp [results,Tryz.results63,go_sem,y90,y91,y92]) rfl ⟨rfl,hb9⟩
set_option maxRecDepth 100000 in
theorem rmake_yes (neg:Bool) (a b:ByteArray) (w:World) (ha:a.size≤134217720) (hb:b.size≤134217720) (h0:0<nv b) :
  Calls Tryz.prog 171 #[.bool neg,.string a,.string b] w fun e w'=>e = .returned (rvB (fr neg (nv a) (nv b)) true)∧Below w.heap.size w w':=by
 have HL:=Lib.hid (fun w=>rlimbs_any b w (by omega))
 have HA:=Lib.hid (fun w=>rlimbs_any a w (by omega))
 have ka:nv a<256 ^ (a.size+b.size):=Nat.lt_of_lt_of_le (nv_lt a) (Nat.pow_le_pow_right (by omega) (by omega))
 have kb:nv b<256 ^ (a.size+b.size):=Nat.lt_of_lt_of_le (nv_lt b) (Nat.pow_le_pow_right (by omega) (by omega))
 have KA:=Lib.hid ka
 have KB:=Lib.hid kb
 have HR:=Lib.hid (fun w ax lx cx ay ly cy h1 h2=>rreduced_any neg ax ay lx ly cx cy (nv a) (nv b) (a.size+b.size) w h1 h2 h0 ka kb (by omega))
 unfold rvB
 generalize fr neg (nv a) (nv b)=r at *
 generalize rn r=r1 at *
 generalize rs r=r2 at *
 generalize rd r=r3 at *
 generalize nv a=x at *
 generalize nv b=y at *
 clear ka kb
 go_enter Tryz.func171,Tryz.ntmps171
 go_wp2_with fail
 refine (HL.out _).mono ?_;rintro e w3 ⟨ad,ld,cd,rfl,u1,u2,c3,c4⟩
 have hl:ld≠0:=fun e=>by have:=c3.zero_iff.mpr e;omega
 have hl0:((ld:Int) == 0)=false:=by simp;omega
 have l3:=RetLimbs.lim (w:=w) c3 KB.out (by omega)
 obtain ⟨H2,HB⟩:=boxes1 c4
 have D3:=Lib.hid c3
 have HB3:=Lib.hid HB
 have H3:=Lib.hid H2
 clear c3 c4 H2 HB hl
 go_wp2_with fail
 refine (HA.out _).mono ?_;rintro e w4 ⟨an,ln,cn,rfl,u3,u4,c3,c4⟩
 have l4:=RetLimbs.lim (w:=w) c3 KA.out (by omega)
 have N4:=Lib.hid c3
 have D4:=Lib.hid (D3.out.below c4 (Nat.le_refl _))
 have HB4:=Lib.hid (chain HB3.out c4 (Nat.le_refl _))
 have H4:=Lib.hid (H3.out.on c4)
 clear c3 c4 D3 HB3 H3
 go_wp2_with fail
 refine (HR.out _ _ _ _ _ _ _ ⟨u3,u4,by omega,N4.out⟩ ⟨u1,u2,by omega,D4.out⟩).mono ?_;rintro e w5 ⟨rfl,c4⟩
 have HB:=Lib.hid (chain HB4.out c4 (Nat.le_refl _))
 have H2:=Lib.hid (H4.out.on c4)
 obtain ⟨b0,b1,b2,f0,f1,f2⟩:=H2.out.get3
 clear c4 D4 N4 HB4 H4
 go_wp2
 refine bodyPost_forget (fun W=>Blk W w.heap.size #[.bool r1,.string r2,.string r3]∧Below w.heap.size w W) ⟨by exact Blk.set3 H2.out _ _ _,below_set3 HB.out (by omega) _ _ _⟩ ?_
 rintro WR ⟨hr9,hb9⟩
 obtain ⟨y90,y91,y92,-,-,-⟩:=hr9.get3
 exact bodyPost_ret (v:=.tuple #[.agg #[.bool r1,.string r2,.string r3],.bool true]) (by simp [results,Tryz.results171,go_sem,y90,y91,y92]) rfl ⟨rfl,hb9⟩
theorem fr_ratio (i j:Int) (hj:0<j):fr (!(decide (i<0) == decide (j<0))) i.natAbs j.natAbs=(i:Rat)/(j:Rat):=by
 have hj0:(j:Rat)≠0:=by
  intro e
  have:j=0:=by exact_mod_cast e
  omega
 rw [fr_div hj0]
 have e1:rn (i:Rat)=decide (i<0):=rfl
 have e2:rn (j:Rat)=decide (j<0):=rfl
 have e3:nm (i:Rat)=i.natAbs:=rfl
 have e4:nm (j:Rat)=j.natAbs:=rfl
 have e5:(i:Rat).den=1:=rfl
 have e6:(j:Rat).den=1:=rfl
 rw [e1,e2,e3,e4,e5,e6,Nat.mul_one,Nat.one_mul]
 rfl
set_option maxRecDepth 100000 in
theorem rfraction_any (i j:Int) (w:World) (h1 : -9223372036854775808≤i) (h2:i≤9223372036854775807) (h3:0<j) (h4:j≤9223372036854775807) :
  Calls Tryz.prog 115 #[.int .i64 i,.int .i64 j] w fun e w'=>e = .returned (rvB ((i:Rat)/(j:Rat)) true)∧Below w.heap.size w w':=by
 have hs1:(bn i.natAbs).size≤8:=bn_size_le (by omega)
 have hs2:(bn j.natAbs).size≤8:=bn_size_le (by omega)
 have hM : ∀ w,Calls Tryz.prog 171 #[.bool (!(decide (i<0) == decide (j<0))),.string (bn i.natAbs),.string (bn j.natAbs)] w fun e w'=>e = .returned (rvB ((i:Rat)/(j:Rat)) true)∧Below w.heap.size w w':=fun w=>by
  have:=rmake_yes (!(decide (i<0) == decide (j<0))) (bn i.natAbs) (bn j.natAbs) w (by omega) (by omega) (by rw [nv_bn];omega)
  rw [nv_bn,nv_bn,fr_ratio i j h3] at this
  exact this
 have hj:decide (j<0)=false:=by simp;omega
 rw [hj] at hM
 have HS1:=Lib.hid (fun w=>size_any i w h1 h2)
 have HS2:=Lib.hid (fun w=>size_any j w (by omega) h4)
 have HF1:=Lib.hid (fun w=>rfromUint_any i.natAbs w (by omega))
 have HF2:=Lib.hid (fun w=>rfromUint_any j.natAbs w (by omega))
 have HM:=Lib.hid hM
 unfold rvB at *
 generalize (i:Rat)/(j:Rat)=r at *
 generalize rn r=r1 at *
 generalize rs r=r2 at *
 generalize rd r=r3 at *
 generalize bn i.natAbs=t1 at *
 generalize bn j.natAbs=t2 at *
 generalize (i.natAbs:Int)=z1 at *
 generalize (j.natAbs:Int)=z2 at *
 clear hM
 have hnn:(!(decide (i<0) == false))=decide (i<0):=by cases decide (i<0) <;> rfl
 rw [hnn] at HM
 clear hnn
 by_cases hi:i<0
 ·rw [decide_eq_true hi] at HM
  as_aux_lemma =>
  go_enter Tryz.func115,Tryz.ntmps115
  go_wp2_with fail
  refine (HS1.out _).mono ?_;rintro e w3 ⟨rfl,rfl⟩
  go_wp2_with fail
  refine (HF1.out _).mono ?_;rintro e w3 ⟨rfl,c3⟩
  go_wp2_with fail
  refine (HS2.out _).mono ?_;rintro e w4 ⟨rfl,rfl⟩
  go_wp2_with fail
  refine (HF2.out _).mono ?_;rintro e w4 ⟨rfl,c4⟩
  go_wp2_with fail
  refine (HM.out _).mono ?_;rintro e w5 ⟨rfl,c5⟩
  obtain ⟨H2,HB⟩:=boxes1 (chain (chain c3 c4 (Nat.le_refl _)) c5 (Nat.le_refl _))
  obtain ⟨b0,b1,b2,f0,f1,f2⟩:=H2.get3
  have HB:=Lib.hid HB
  have H2:=Lib.hid H2
  clear c3 c4 c5
  go_wp2
  refine bodyPost_forget (fun W=>Blk W w.heap.size #[.bool r1,.string r2,.string r3]∧Below w.heap.size w W) ⟨by exact Blk.set3 H2.out _ _ _,below_set3 HB.out (by omega) _ _ _⟩ ?_
  rintro WR ⟨hr9,hb9⟩
  obtain ⟨y90,y91,y92,-,-,-⟩:=hr9.get3
  exact bodyPost_ret (v:=.tuple #[.agg #[.bool r1,.string r2,.string r3],.bool true]) (by simp [results,Tryz.results115,go_sem,y90,y91,y92]) rfl ⟨rfl,hb9⟩
 ·have hi3:=hi
  have hi2:0≤i:=by omega
  clear hi hi3
  as_aux_lemma =>
  go_enter Tryz.func115,Tryz.ntmps115
  go_wp2_with fail
  refine (HS1.out _).mono ?_;rintro e w3 ⟨rfl,rfl⟩
  go_wp2_with fail
  refine (HF1.out _).mono ?_;rintro e w3 ⟨rfl,c3⟩
  go_wp2_with fail
  refine (HS2.out _).mono ?_;rintro e w4 ⟨rfl,rfl⟩
  go_wp2_with fail
  refine (HF2.out _).mono ?_;rintro e w4 ⟨rfl,c4⟩
  go_wp2_with fail
  refine (HM.out _).mono ?_;rintro e w5 ⟨rfl,c5⟩
  obtain ⟨H2,HB⟩:=boxes1 (chain (chain c3 c4 (Nat.le_refl _)) c5 (Nat.le_refl _))
  obtain ⟨b0,b1,b2,f0,f1,f2⟩:=H2.get3
  have HB:=Lib.hid HB
  have H2:=Lib.hid H2
  clear c3 c4 c5
  go_wp2
  refine bodyPost_forget (fun W=>Blk W w.heap.size #[.bool r1,.string r2,.string r3]∧Below w.heap.size w W) ⟨by exact Blk.set3 H2.out _ _ _,below_set3 HB.out (by omega) _ _ _⟩ ?_
  rintro WR ⟨hr9,hb9⟩
  obtain ⟨y90,y91,y92,-,-,-⟩:=hr9.get3
  exact bodyPost_ret (v:=.tuple #[.agg #[.bool r1,.string r2,.string r3],.bool true]) (by simp [results,Tryz.results115,go_sem,y90,y91,y92]) rfl ⟨rfl,hb9⟩
set_option maxRecDepth 100000 in
theorem ratio_any (i j:Int) (w:World) (h1 : -9223372036854775808≤i) (h2:i≤9223372036854775807) (h3:0<j) (h4:j≤9223372036854775807) :
  Calls Tryz.prog 66 #[.int .i64 i,.int .i64 j] w fun e w'=>e = .returned (.agg #[.bool (rn ((i:Rat)/(j:Rat))),.string (rs ((i:Rat)/(j:Rat))),.string (rd ((i:Rat)/(j:Rat)))])∧Below w.heap.size w w':=by
 have HF:=Lib.hid (fun w=>rfraction_any i j w h1 h2 h3 h4)
 unfold rvB at HF
 generalize (i:Rat)/(j:Rat)=r at *
 generalize rn r=r1 at *
 generalize rs r=r2 at *
 generalize rd r=r3 at *
 go_enter Tryz.func66,Tryz.ntmps66
 go_wp2_with fail
 refine (HF.out _).mono ?_;rintro e w3 ⟨rfl,hb3⟩
 obtain ⟨H2,HB⟩:=boxes1 hb3
 have z:=H2.lt
 obtain ⟨b0,b1,b2,f0,f1,f2⟩:=H2.get3
 have HB:=Lib.hid HB
 have H2:=Lib.hid H2
 clear hb3
 have q9:=below_set3 HB.out (Nat.le_refl _) (.bool r1) (.string r2) (.string r3)
 go_wp2
 refine bodyPost_forget (fun W=>Blk W w.heap.size #[.bool r1,.string r2,.string r3]∧Below w.heap.size w W) ⟨by exact (Blk.set3 H2.out _ _ _).alloc _,by exact q9.alloc q9.size _⟩ ?_
 rintro WR ⟨hr9,hb9⟩
 obtain ⟨y90,y91,y92,-,-,-⟩:=hr9.get3
 exact bodyPost_ret (v:=.agg #[.bool r1,.string r2,.string r3]) (by simp [results,Tryz.results66,go_sem,y90,y91,y92]) rfl ⟨rfl,hb9⟩
set_option maxRecDepth 100000 in
theorem whole_any (i:Int) (w:World) (h1 : -9223372036854775808≤i) (h2:i≤9223372036854775807) :
  Calls Tryz.prog 31 #[.int .i64 i] w fun e w'=>e = .returned (.agg #[.bool (rn (i:Rat)),.string (rs (i:Rat)),.string (rd (i:Rat))])∧Below w.heap.size w w':=by
 have HF:=Lib.hid (fun w=>rint_any i w h1 h2)
 generalize (i:Rat)=r at *
 generalize rn r=r1 at *
 generalize rs r=r2 at *
 generalize rd r=r3 at *
 go_enter Tryz.func31,Tryz.ntmps31
 go_wp2_with fail
 refine (HF.out _).mono ?_;rintro e w3 ⟨rfl,hb3⟩
 obtain ⟨H2,HB⟩:=boxes1 hb3
 obtain ⟨b0,b1,b2,f0,f1,f2⟩:=H2.get3
 have HB:=Lib.hid HB
 have H2:=Lib.hid H2
 clear hb3
 go_wp2
 refine bodyPost_forget (fun W=>Blk W (w.heap.size) #[.bool r1,.string r2,.string r3]∧Below w.heap.size w W) ⟨by exact Blk.set3 H2.out _ _ _,below_set3 HB.out (by omega) _ _ _⟩ ?_
 rintro WR ⟨hr9,hb9⟩
 obtain ⟨y90,y91,y92,-,-,-⟩:=hr9.get3
 exact bodyPost_ret (v:=.agg #[.bool r1,.string r2,.string r3]) (by simp [results,Tryz.results31,go_sem,y90,y91,y92]) rfl ⟨rfl,hb9⟩
def amt (x:Nat):Rat:=if x%5=0 then (((x/5%23:Nat):Int):Rat)/(((1+x/115%6:Nat):Int):Rat) else if x%5=1 then (((10*(x/5%4):Nat):Int):Rat) else (((x/5%13:Nat):Int):Rat)
theorem amt_0 {x:Nat} (h:x%5=0):amt x=(((x/5%23:Nat):Int):Rat)/(((1+x/115%6:Nat):Int):Rat):=by unfold amt;rw [if_pos h]
theorem amt_1 {x:Nat} (h:x%5=1):amt x=(((10*(x/5%4):Nat):Int):Rat):=by unfold amt;rw [if_neg (by omega),if_pos h]
theorem amt_2 {x:Nat} (h : ¬ x%5=0) (h1 : ¬ x%5=1):amt x=(((x/5%13:Nat):Int):Rat):=by unfold amt;rw [if_neg h,if_neg h1]
set_option maxRecDepth 100000 in
theorem amount_any (x:Nat) (w:World) (hx:x≤65535) :
  Calls Tryz.prog 35 #[.int .u16 (x:Int)] w fun e w'=>e = .returned (.agg #[.bool (rn (amt x)),.string (rs (amt x)),.string (rd (amt x))])∧Below w.heap.size w w':=by
 by_cases h:x%5=0
 ·have hF:=fun w=>ratio_any ((x/5%23:Nat):Int) ((1+x/115%6:Nat):Int) w (by omega) (by omega) (by omega) (by omega)
  rw [← amt_0 h,show ((x/5%23:Nat):Int)=(x:Int)/5%23 by omega,show ((1+x/115%6:Nat):Int)=1+(x:Int)/115%6 by omega] at hF
  have HF:=Lib.hid hF
  generalize amt x=r at *
  generalize rn r=r1 at *
  generalize rs r=r2 at *
  generalize rd r=r3 at *
  clear hF
  go_enter Tryz.func35,Tryz.ntmps35
  go_wp2_with fail
  refine (HF.out _).mono ?_;rintro e w3 ⟨rfl,hb3⟩
  obtain ⟨H2,HB⟩:=boxes1 hb3
  obtain ⟨b0,b1,b2,f0,f1,f2⟩:=H2.get3
  have HB:=Lib.hid HB
  have H2:=Lib.hid H2
  clear hb3
  go_wp2
  refine bodyPost_forget (fun W=>Blk W (w.heap.size) #[.bool r1,.string r2,.string r3]∧Below w.heap.size w W) ⟨by exact Blk.set3 H2.out _ _ _,below_set3 HB.out (by omega) _ _ _⟩ ?_
  rintro WR ⟨hr9,hb9⟩
  obtain ⟨y90,y91,y92,-,-,-⟩:=hr9.get3
  exact bodyPost_ret (v:=.agg #[.bool r1,.string r2,.string r3]) (by simp [results,Tryz.results35,go_sem,y90,y91,y92]) rfl ⟨rfl,hb9⟩
 ·by_cases h1:x%5=1
  ·have hF:=fun w=>whole_any ((10*(x/5%4):Nat):Int) w (by omega) (by omega)
   rw [← amt_1 h1,show ((10*(x/5%4):Nat):Int)=10*((x:Int)/5%4) by omega] at hF
   have HF:=Lib.hid hF
   generalize amt x=r at *
   generalize rn r=r1 at *
   generalize rs r=r2 at *
   generalize rd r=r3 at *
   clear hF
   go_enter Tryz.func35,Tryz.ntmps35
   go_wp2_with fail
   refine (HF.out _).mono ?_;rintro e w3 ⟨rfl,hb3⟩
   obtain ⟨H2,HB⟩:=boxes1 hb3
   obtain ⟨b0,b1,b2,f0,f1,f2⟩:=H2.get3
   have HB:=Lib.hid HB
   have H2:=Lib.hid H2
   clear hb3
   go_wp2
   refine bodyPost_forget (fun W=>Blk W (w.heap.size) #[.bool r1,.string r2,.string r3]∧Below w.heap.size w W) ⟨by exact Blk.set3 H2.out _ _ _,below_set3 HB.out (by omega) _ _ _⟩ ?_
   rintro WR ⟨hr9,hb9⟩
   obtain ⟨y90,y91,y92,-,-,-⟩:=hr9.get3
   exact bodyPost_ret (v:=.agg #[.bool r1,.string r2,.string r3]) (by simp [results,Tryz.results35,go_sem,y90,y91,y92]) rfl ⟨rfl,hb9⟩
  ·have hF:=fun w=>whole_any ((x/5%13:Nat):Int) w (by omega) (by omega)
   rw [← amt_2 h h1,show ((x/5%13:Nat):Int)=(x:Int)/5%13 by omega] at hF
   have HF:=Lib.hid hF
   have h3:((x:Int)%5 == 0)=false:=by simp;omega
   have h4:((x:Int)%5 == 1)=false:=by simp;omega
   generalize amt x=r at *
   generalize rn r=r1 at *
   generalize rs r=r2 at *
   generalize rd r=r3 at *
   clear hF
   go_enter Tryz.func35,Tryz.ntmps35
   go_wp2_with fail
   refine (HF.out _).mono ?_;rintro e w3 ⟨rfl,hb3⟩
   obtain ⟨H2,HB⟩:=boxes1 hb3
   obtain ⟨b0,b1,b2,f0,f1,f2⟩:=H2.get3
   have HB:=Lib.hid HB
   have H2:=Lib.hid H2
   clear hb3
   go_wp2
   refine bodyPost_forget (fun W=>Blk W (w.heap.size) #[.bool r1,.string r2,.string r3]∧Below w.heap.size w W) ⟨by exact Blk.set3 H2.out _ _ _,below_set3 HB.out (by omega) _ _ _⟩ ?_
   rintro WR ⟨hr9,hb9⟩
   obtain ⟨y90,y91,y92,-,-,-⟩:=hr9.get3
   exact bodyPost_ret (v:=.agg #[.bool r1,.string r2,.string r3]) (by simp [results,Tryz.results35,go_sem,y90,y91,y92]) rfl ⟨rfl,hb9⟩

section
variable {P:Program} {ops:Array Oper} {md:Region.Mode} {S:World→Prop} {Q:Exit→Act→World→Prop}
end
inductive STree where
 | fin (qs:List Nat)
 | one (qs:List Nat) (i:Nat) (t:STree)
 | two (qs:List Nat) (i j:Nat) (t u:STree)
def STree.len:STree→Nat
 | .fin qs=>qs.length
 | .one qs _ t=>t.len+1+qs.length
 | .two qs _ _ t _=>t.len+1+qs.length
section
variable {P:Program} {ops:Array Oper} {md:Region.Mode} {S:World→Prop} {Q:Exit→Act→World→Prop}
end
structure ExcP (W:World) (X:Nat→Bool) where
 d:Nat
 heap:Array Obj
 size:W.heap.size≤heap.size
 block : ∀ k,k<W.heap.size→X k=false→heap[k]?=W.heap[k]?
def ExcP.w {W:World} {X:Nat→Bool} (p:ExcP W X):World:={ W with drawn:=p.d,heap:=p.heap }
instance (W:World) (X:Nat→Bool):Inhabited (ExcP W X):=⟨⟨0,W.heap,Nat.le_refl _,fun _ _ _=>rfl⟩⟩
def RetO (w:World) (T:TypeId) (n sz:Nat) (F:Nat→List Value) (e:Ending) (w' : World):Prop :=
 ∃ v,e = .returned v∧SOwn w' w.heap.size T sz v n F∧Below w.heap.size w w'
def c16 (L:Nat→Nat) (i:Nat):List Value:=[.int .u16 (L i:Int)]
def lenOf:Value→Nat
 | .slice _ n _=>n
 | _=>0
end Go.Proofs.Ins
namespace Go.Proofs.Ins
open Go Go.RowKit Go.ChangeShapes Go.WideShapes Go.Deep
theorem SArg.congr {w:World} {a:Option Addr} {n sz:Nat} {F G:Nat→List Value} (h:SArg w a n sz F) (hg : ∀ i,i<n→F i=G i):SArg w a n sz G:=by
 rcases h with h|⟨b,off,ha,hl,hr⟩
 ·exact .inl h
 ·exact .inr ⟨b,off,ha,hl,fun i j hi hj=>by rw [← hg i hi];exact hr i j hi hj⟩
section
variable {H:Type} {enc:TypeId×Value→H} {W:World} {sp:Nat→Bool} {held:Bool}
theorem arg_u16s {fuel:Nat} {cs:List Value} {x:DataW H×List MemPlace} (h:DataW.trod enc Tryz.prog W 0 sp held fuel 22 cs=some x) (hL:Light Tryz.prog 22 x.1) :
  ∃ a n cap,∃ M:Nat→Nat,cs=[.slice a n cap]∧n≤140737488351232∧SArg W a n 1 (c16 M)∧∀ i,i<n→M i≤65535:=by
 obtain ⟨a,n,cap,C,rfl,hn,hs,hx⟩:=open_rows (k:=1) Tryz.underlying22 (by kernel_rfl) (by omega) (of_decide_eq_true (by kernel_rfl)) h hL
 obtain ⟨M,hM⟩:=choose_lt (α:=Nat) (p:=fun i m=>C i=[.int .u16 (m:Int)]∧m≤65535) (fun i hi=>by
  obtain ⟨_,n,y,h1,h2⟩:=hx i hi
  exact u16_cells h1)
 exact ⟨a,n,cap,M,rfl,hn,hs.congr fun i hi=>(hM i hi).1,fun i hi=>(hM i hi).2⟩
theorem trodAll_below {P:Program} (hl:laidOutB P=true) {W W' : World} (hb:Below W.heap.size W W') : ∀ {ts:List TypeId} {vs:List Value} {ds:List (DataW H)} {p:List MemPlace},
  (ts.all fun t=>P.readableRec t && decide (t<P.types.size))=true→DataW.TrodAll enc P W 0 (fun _=>true) true ts vs ds p→(∀ x∈p,x.block<W.heap.size)→DataW.TrodAll enc P W' 0 (fun b=>decide (b<W.heap.size)) true ts vs ds p
 | [],_,_,_,_,h,_=>by
  obtain ⟨rfl,rfl,rfl⟩:=trodAll_nil h
  exact h
 | t::ts,_,_,_,ht,h,hp=>by
  obtain ⟨v,vs1,d,ds1,a,b,rfl,rfl,rfl,h1,h2⟩:=trodAll_cons h
  simp only [List.all_cons,Bool.and_eq_true,decide_eq_true_eq] at ht
  exact ⟨a,b,Below.trod hl ht.1.1 ht.1.2 h1 hb (fun x hx=>hp x (List.mem_append_left _ hx)),trodAll_below hl hb ht.2 h2 (fun x hx=>hp x (List.mem_append_right _ hx)),rfl⟩
end
theorem laidOut' : laidOutB Tryz.prog=true:=by kernel_rfl
end Go.Proofs.Ins
namespace Go.Proofs.Ins
open Go Go.RowKit Go.ChangeShapes Go.WideShapes Go.ChangeAt Go.Proofs.YtiaefgffeekfkaaGreatDoor
theorem own' : ownKnob Tryz.prog.godebug=none:=by kernel_rfl
def laidL : List (String × DataW Unit) := [("unicode/utf8.acceptRanges", Rows.laid_unicode_utf8_acceptRanges), ("unicode/utf8.first", Rows.laid_unicode_utf8_first)]
section
variable {H:Type} {enc:TypeId×Value→H} {W:World}
theorem val_slice {P:Program} {r:Reach} {b:Nat} {t e:TypeId} {v:Value} {d:DataW H} {p:List MemPlace} {sp:Nat→Bool} {held:Bool} (ht:P.underlying t=some (.slice e)) (hv:Value.okWide P W r b t v) (h:DataW.Trod enc P W 0 sp held t v d p) :
  ∃ a n c f,v = .slice a n c∧DataW.trod enc P W 0 sp held f t [.slice a n c]=some (d,p):=by
 obtain ⟨a,n,c,rfl⟩:=okWide_slice ht hv
 obtain ⟨f,h⟩:=h
 exact ⟨a,n,c,f,rfl,h⟩
theorem law_post {f:FuncId} {fn:Func} {s:ChangeSpec} {args:Array Value} {ds:List (DataW H)} {before:List MemPlace}
  (hs:s.vars=[]) (hr:fn.resultTypes = #[4]) (hfn:s.fn H (ds ++ []) = { results:=[.lit (.bool true)],args:=ds })
  (ht:(fn.params.toList.all fun t=>Tryz.prog.readableRec t && decide (t<Tryz.prog.types.size))=true)
  (hW:DataW.Whole enc Tryz.prog fn.params.toList s.vars false W args.toList ds [] before)
  (hw:Calls Tryz.prog f args W fun e w'=>e = .returned (.bool true)∧Below W.heap.size W w') :
  Calls Tryz.prog f args W fun e W'=>∃ v,e = .returned v∧s.post enc Tryz.prog fn false true false false W args v W':=by
 refine hw.mono fun e W' ⟨he,hB⟩=>?_
 subst he
 have hW':=hW
 obtain ⟨p,q,hA,hV,rfl,hfz,hnd⟩:=hW
 refine ⟨_,rfl,ds,[],p ++ q,[],p,[],hW',?_,?_,?_,hB.frame _,fun h=>by cases h⟩
 ·rw [hfn,hr]
  exact trodAll_mk1 (shut_bool Tryz.underlying4 _)
 ·rw [hfn]
  exact trodAll_below laidOut' hB ht hA (fun x hx=>hW'.lt x (List.mem_append_left _ hx))
 ·rw [hfn,hs]
  rfl
end
section
variable {H:Type} {enc:TypeId×Value→H} {W:World}
set_option maxRecDepth 100000 in
theorem v_u8 {r:Reach} {b:Nat} {v:Value} {d:DataW H} {p:List MemPlace} {sp:Nat→Bool} {held:Bool} (hv:Value.okWide Tryz.prog W r b 5 v) (h:DataW.Trod enc Tryz.prog W 0 sp held 5 v d p) :
  ∃ n:Nat,v = .int .u8 (n:Int)∧n≤255:=by
 obtain ⟨n,rfl,-,-,hw⟩:=open_int Tryz.underlying5 hv h
 have hw2:0≤n∧n≤255:=by simpa [Lit.wf,IntKind.min,IntKind.max,IntKind.signed,IntKind.bits] using hw
 exact ⟨n.toNat,by rw [Int.toNat_of_nonneg hw2.1],by omega⟩
set_option maxRecDepth 100000 in
theorem v_u16 {r:Reach} {b:Nat} {v:Value} {d:DataW H} {p:List MemPlace} {sp:Nat→Bool} {held:Bool} (hv:Value.okWide Tryz.prog W r b 24 v) (h:DataW.Trod enc Tryz.prog W 0 sp held 24 v d p) :
  ∃ n:Nat,v = .int .u16 (n:Int)∧n≤65535:=by
 obtain ⟨n,rfl,-,-,hw⟩:=open_int Tryz.underlying24 hv h
 have hw2:0≤n∧n≤65535:=by simpa [Lit.wf,IntKind.min,IntKind.max,IntKind.signed,IntKind.bits] using hw
 exact ⟨n.toNat,by rw [Int.toNat_of_nonneg hw2.1],by omega⟩
end
end Go.Proofs.Ins
