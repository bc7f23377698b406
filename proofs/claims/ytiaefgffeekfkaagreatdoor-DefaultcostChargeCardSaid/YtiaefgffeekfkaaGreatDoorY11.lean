/- The walks of insolvencyref1: Valid, Fix, den, reduced. -/
import Derived.Test.YtiaefgffeekfkaaGreatDoorY10
import Derived.Test.YtiaefgffeekfkaaGreatDoorY9
set_option linter.unusedSimpArgs false
set_option linter.unusedVariables false
set_option maxHeartbeats 8000000
namespace Go.Proofs.Ins
open Go.RowKit
structure MulC (p1:Bool) (p2 p3:ByteArray) (q1:Bool) (q2 q3:ByteArray) (P1 P2 X Y:ByteArray) (r1:Bool) (r2 r3:ByteArray):Prop where
 dp : ∀ w,Calls Tryz.prog 71 #[.agg #[.bool p1,.string p2,.string p3]] w fun e w'=>e = .returned (.string P1)∧Below w.heap.size w w'
 dq : ∀ w,Calls Tryz.prog 71 #[.agg #[.bool q1,.string q2,.string q3]] w fun e w'=>e = .returned (.string P2)∧Below w.heap.size w w'
 mx : ∀ w,Calls Tryz.prog 70 #[.string p2,.string q2] w fun e w'=>e = .returned (.string X)∧Below w.heap.size w w'
 my : ∀ w,Calls Tryz.prog 70 #[.string P1,.string P2] w fun e w'=>e = .returned (.string Y)∧Below w.heap.size w w'
 rd : ∀ w,Calls Tryz.prog 178 #[.bool (!(p1 == q1)),.string X,.string Y] w fun e w'=>e = .returned (.agg #[.bool r1,.string r2,.string r3])∧Below w.heap.size w w'
theorem red_call (n:Bool) (x y k l:Nat) (w:World) (hx:x<256 ^ k) (hy:y<256 ^ l) (hk:k≤1073741824) (hl:l≤1073741824) (h0:0<y) :
  Calls Tryz.prog 178 #[.bool n,.string (bn x),.string (bn y)] w fun e w'=>e = .returned (.agg #[.bool (rn (fr n x y)),.string (rs (fr n x y)),.string (rd (fr n x y))])∧Below w.heap.size w w':=by
 have:=reduced_agg n (bn x) (bn y) w (bn_small hx hk) (bn_small hy hl) (by rw [nv_bn];exact h0)
 rw [nv_bn,nv_bn] at this;exact this
theorem mulC_of (p q:Rat) (k l:Nat) (hp:Sm k p) (hq:Sm l q) (hkl:k+l≤1073741824) :
  MulC (rn p) (rs p) (rd p) (rn q) (rs q) (rd q) (bn p.den) (bn q.den) (bn (nm p*nm q)) (bn (p.den*q.den)) (rn (p*q)) (rs (p*q)) (rd (p*q)):=by
 have h1:=pow_mul_lt hp.1 hq.1
 have h2:=pow_mul_lt hp.2 hq.2
 refine ⟨fun w=>den_rat p w,fun w=>den_rat q w,fun w=>mul_call _ _ k l w hp.1 hq.1 (by omega) (by omega),fun w=>mul_call _ _ k l w hp.2 hq.2 (by omega) (by omega),fun w=>?_⟩
 have:=red_call (rn p != rn q) _ _ _ _ w h1 h2 hkl hkl (Nat.mul_pos p.den_pos q.den_pos)
 rw [← fr_mul] at this;exact this
set_option maxRecDepth 100000 in
theorem multiply_rat (n1:Bool) (s1 d1:ByteArray) (n2:Bool) (s2 d2:ByteArray) (w:World) (h1:s1.size+d1.size≤268435456) (h2:s2.size+d2.size≤268435456) :
  Calls Tryz.prog 250 #[.agg #[.bool n1,.string s1,.string d1],.agg #[.bool n2,.string s2,.string d2]] w fun e w'=>e = .returned (rv (rq n1 s1 d1*rq n2 s2 d2))∧Below w.heap.size w w':=by
 have HC1:=Lib.hid (fun w=>clean_agg n1 s1 d1 w (by omega) (by omega))
 have HC2:=Lib.hid (fun w=>clean_agg n2 s2 d2 w (by omega) (by omega))
 have HCC:=mulC_of _ _ _ _ (sm_raw n1 s1 d1) (sm_raw n2 s2 d2) (by omega)
 generalize rq n1 s1 d1=p at *
 generalize rq n2 s2 d2=q at *
 unfold rv
 generalize bn (nm p*nm q)=X at *
 generalize bn (p.den*q.den)=Y at *
 generalize bn p.den=P1 at *
 generalize bn q.den=P2 at *
 generalize rn (p*q)=r1 at *
 generalize rs (p*q)=r2 at *
 generalize rd (p*q)=r3 at *
 generalize rn p=p1 at *
 generalize rs p=p2 at *
 generalize rd p=p3 at *
 generalize rn q=q1 at *
 generalize rs q=q2 at *
 generalize rd q=q3 at *
 have HD:=Lib.hid HCC
 clear HCC
 go_enter Tryz.func250,Tryz.ntmps250
 go_wp2
 refine wp_forget (fun W=>Blk W w.heap.size #[.bool n1,.string s1,.string d1]∧Blk W (w.heap.size+1) #[.bool n2,.string s2,.string d2]∧Blk W (w.heap.size+1+1) #[.bool false,.string ⟨#[]⟩,.string ⟨#[]⟩]∧Below w.heap.size w W) (three_boxes w _ _ _ _ _ _) ?_
 rintro W ⟨H1,H2,H3,HB⟩
 obtain ⟨k0,k1,k2⟩:=H1.later3
 obtain ⟨k3,k4,k5⟩:=H2.later3
 refine wp_region_qbt 4 (by kernel_rfl) (by kernel_rfl) ?_
 simp only [List.take_succ_cons,List.take_zero,List.drop_succ_cons,List.drop_zero]
 repeat (first|go_big_quiet_skip|quiet_step (first|with_reducible exact Calls.later (HC1.out _)|with_reducible exact Calls.later (HC2.out _)))
 clear k0 k1 k2 k3 k4 k5
 refine wpQuiet_nil ?_
 intro W1 hb1
 have J1:=Lib.hid (H1.on hb1)
 have J2:=Lib.hid (H2.on hb1)
 have J3:=Lib.hid (H3.on hb1)
 have JB:=Lib.hid (chain HB hb1 (Nat.le_refl _))
 clear H1 H2 H3 HB hb1
 obtain ⟨a0,a1,a2,a3,a4,a5⟩:=J1.out.get3
 obtain ⟨b0,b1,b2,b3,b4,b5⟩:=J2.out.get3
 go_wp2
 clear a0 a1 a2 a3 a4 a5 b0 b1 b2 b3 b4 b5
 refine wp_forget (fun W=>(Blk W w.heap.size #[.bool p1,.string p2,.string p3]∧Blk W (w.heap.size+1) #[.bool q1,.string q2,.string q3]∧Below w.heap.size w W)∧Blk W (w.heap.size+1+1) #[.bool false,.string ⟨#[]⟩,.string ⟨#[]⟩]) ⟨two_stored _ _ _ _ _ _ J1.out J2.out JB.out (by omega) (Nat.le_refl _) (by omega),(J3.out.set3Other (by omega) _ _ _).set3Other (by omega) _ _ _⟩ ?_
 clear J1 J2 J3 JB
 rintro W3 ⟨⟨H1,H2,HB⟩,H3⟩
 obtain ⟨k0,k1,k2⟩:=H1.later3
 obtain ⟨k3,k4,k5⟩:=H2.later3
 refine wp_region_qbt 16 (by kernel_rfl) (by kernel_rfl) ?_
 simp only [List.take_succ_cons,List.take_zero,List.drop_succ_cons,List.drop_zero]
 repeat (first|go_big_quiet_skip|quiet_step (first|with_reducible exact Calls.later (HD.out.dp _)|with_reducible exact Calls.later (HD.out.dq _)|with_reducible exact Calls.later (HD.out.mx _)|with_reducible exact Calls.later (HD.out.my _)|with_reducible exact Calls.later (HD.out.rd _)))
 clear k0 k1 k2 k3 k4 k5
 refine wpQuiet_nil ?_
 intro W5 hb5
 have HB:=Lib.hid (chain HB hb5 (Nat.le_refl _))
 have H2:=Lib.hid (H3.on hb5)
 obtain ⟨a0,a1,a2,a3,a4,a5⟩:=H2.out.get3
 clear hb5 H3 H1
 go_wp2
 refine bodyPost_forget (fun W=>Blk W (w.heap.size+1+1) #[.bool r1,.string r2,.string r3]∧Below w.heap.size w W) ⟨by exact Blk.set3 H2.out _ _ _,below_set3 HB.out (by omega) _ _ _⟩ ?_
 rintro WR ⟨hr9,hb9⟩
 obtain ⟨y90,y91,y92,-,-,-⟩:=hr9.get3
 exact bodyPost_ret (v:=.agg #[.bool r1,.string r2,.string r3]) (by simp [results,Tryz.results250,go_sem,y90,y91,y92]) rfl ⟨rfl,hb9⟩
structure DivC (p1:Bool) (p2 p3:ByteArray) (q1:Bool) (q2 q3:ByteArray) (P1 P2 X Y:ByteArray) (r1:Bool) (r2 r3:ByteArray) (ok:Bool):Prop where
 dp : ∀ w,Calls Tryz.prog 71 #[.agg #[.bool p1,.string p2,.string p3]] w fun e w'=>e = .returned (.string P1)∧Below w.heap.size w w'
 dq : ∀ w,Calls Tryz.prog 71 #[.agg #[.bool q1,.string q2,.string q3]] w fun e w'=>e = .returned (.string P2)∧Below w.heap.size w w'
 mx : ∀ w,Calls Tryz.prog 70 #[.string p2,.string P2] w fun e w'=>e = .returned (.string X)∧Below w.heap.size w w'
 my : ∀ w,Calls Tryz.prog 70 #[.string P1,.string q2] w fun e w'=>e = .returned (.string Y)∧Below w.heap.size w w'
 mke : ∀ w,Calls Tryz.prog 286 #[.bool (!(p1 == q1)),.string X,.string Y] w fun e w'=>e = .returned (.tuple #[.agg #[.bool r1,.string r2,.string r3],.bool ok])∧Below w.heap.size w w'
def divR (p q:Rat):Rat:=if q=0 then 0 else p/q
def okR (q:Rat):Bool:=!decide (q=0)
theorem divC_of (p q:Rat) (k l:Nat) (hp:Sm k p) (hq:Sm l q) (hkl:k+l≤1073741824) :
  DivC (rn p) (rs p) (rd p) (rn q) (rs q) (rd q) (bn p.den) (bn q.den) (bn (nm p*q.den)) (bn (p.den*nm q)) (rn (divR p q)) (rs (divR p q)) (rd (divR p q)) (okR q):=by
 have h1:=pow_mul_lt hp.1 hq.2
 have h2:=pow_mul_lt hp.2 hq.1
 refine ⟨fun w=>den_rat p w,fun w=>den_rat q w,fun w=>mul_call _ _ k l w hp.1 hq.2 (by omega) (by omega),fun w=>mul_call _ _ k l w hp.2 hq.1 (by omega) (by omega),fun w=>?_⟩
 by_cases h:q=0
 ·have hy:p.den*nm q=0:=by rw [nm_zero.mpr h,Nat.mul_zero]
  have:=make_no (rn p != rn q) (bn (nm p*q.den)) (bn (p.den*nm q)) w (bn_small h2 hkl) (by rw [nv_bn,hy])
  unfold divR okR
  rw [if_pos h,decide_eq_true h]
  exact this
 ·have hy:0<p.den*nm q:=Nat.mul_pos p.den_pos (Nat.pos_of_ne_zero fun e=>h (nm_zero.mp e))
  have:=make_yes (rn p != rn q) (bn (nm p*q.den)) (bn (p.den*nm q)) w (bn_small h1 hkl) (bn_small h2 hkl) (by rw [nv_bn];exact hy)
  rw [nv_bn,nv_bn,← fr_div h] at this
  unfold divR okR
  rw [if_neg h,decide_eq_false h]
  exact this
set_option maxRecDepth 100000 in
theorem divide_rat (n1:Bool) (s1 d1:ByteArray) (n2:Bool) (s2 d2:ByteArray) (w:World) (h1:s1.size+d1.size≤268435456) (h2:s2.size+d2.size≤268435456) :
  Calls Tryz.prog 248 #[.agg #[.bool n1,.string s1,.string d1],.agg #[.bool n2,.string s2,.string d2]] w fun e w'=>e = .returned (rvB (divR (rq n1 s1 d1) (rq n2 s2 d2)) (okR (rq n2 s2 d2)))∧Below w.heap.size w w':=by
 have HC1:=Lib.hid (fun w=>clean_agg n1 s1 d1 w (by omega) (by omega))
 have HC2:=Lib.hid (fun w=>clean_agg n2 s2 d2 w (by omega) (by omega))
 have HCC:=divC_of _ _ _ _ (sm_raw n1 s1 d1) (sm_raw n2 s2 d2) (by omega)
 generalize rq n1 s1 d1=p at *
 generalize rq n2 s2 d2=q at *
 unfold rvB
 generalize okR q=ok at *
 generalize rn (divR p q)=r1 at *
 generalize rs (divR p q)=r2 at *
 generalize rd (divR p q)=r3 at *
 generalize bn (nm p*q.den)=X at *
 generalize bn (p.den*nm q)=Y at *
 generalize bn p.den=P1 at *
 generalize bn q.den=P2 at *
 generalize rn p=p1 at *
 generalize rs p=p2 at *
 generalize rd p=p3 at *
 generalize rn q=q1 at *
 generalize rs q=q2 at *
 generalize rd q=q3 at *
 have HD:=Lib.hid HCC
 clear HCC
 go_enter Tryz.func248,Tryz.ntmps248
 go_wp2
 refine wp_forget (fun W=>Blk W w.heap.size #[.bool n1,.string s1,.string d1]∧Blk W (w.heap.size+1) #[.bool n2,.string s2,.string d2]∧Blk W (w.heap.size+1+1) #[.bool false,.string ⟨#[]⟩,.string ⟨#[]⟩]∧Below w.heap.size w W) (three_boxes w _ _ _ _ _ _) ?_
 rintro W ⟨H1,H2,H3,HB⟩
 obtain ⟨k0,k1,k2⟩:=H1.later3
 obtain ⟨k3,k4,k5⟩:=H2.later3
 refine wp_region_qbt 4 (by kernel_rfl) (by kernel_rfl) ?_
 simp only [List.take_succ_cons,List.take_zero,List.drop_succ_cons,List.drop_zero]
 repeat (first|go_big_quiet_skip|quiet_step (first|with_reducible exact Calls.later (HC1.out _)|with_reducible exact Calls.later (HC2.out _)))
 clear k0 k1 k2 k3 k4 k5
 refine wpQuiet_nil ?_
 intro W1 hb1
 have J1:=Lib.hid (H1.on hb1)
 have J2:=Lib.hid (H2.on hb1)
 have J3:=Lib.hid (H3.on hb1)
 have JB:=Lib.hid (chain HB hb1 (Nat.le_refl _))
 clear H1 H2 H3 HB hb1
 obtain ⟨a0,a1,a2,a3,a4,a5⟩:=J1.out.get3
 obtain ⟨b0,b1,b2,b3,b4,b5⟩:=J2.out.get3
 go_wp2
 clear a0 a1 a2 a3 a4 a5 b0 b1 b2 b3 b4 b5
 refine wp_forget (fun W=>(Blk W w.heap.size #[.bool p1,.string p2,.string p3]∧Blk W (w.heap.size+1) #[.bool q1,.string q2,.string q3]∧Below w.heap.size w W)∧Blk W (w.heap.size+1+1) #[.bool false,.string ⟨#[]⟩,.string ⟨#[]⟩]) ⟨two_stored _ _ _ _ _ _ J1.out J2.out JB.out (by omega) (Nat.le_refl _) (by omega),(J3.out.set3Other (by omega) _ _ _).set3Other (by omega) _ _ _⟩ ?_
 clear J1 J2 J3 JB
 rintro W3 ⟨⟨H1,H2,HB⟩,H3⟩
 obtain ⟨k0,k1,k2⟩:=H1.later3
 obtain ⟨k3,k4,k5⟩:=H2.later3
 refine wp_region_qbt 18 (by kernel_rfl) (by kernel_rfl) ?_
 simp only [List.take_succ_cons,List.take_zero,List.drop_succ_cons,List.drop_zero]
 repeat (first|go_big_quiet_skip|quiet_step (first|with_reducible exact Calls.later (HD.out.dp _)|with_reducible exact Calls.later (HD.out.dq _)|with_reducible exact Calls.later (HD.out.mx _)|with_reducible exact Calls.later (HD.out.my _)|with_reducible exact Calls.later (HD.out.mke _)))
 clear k0 k1 k2 k3 k4 k5
 refine wpQuiet_nil ?_
 intro W5 hb5
 have HB:=Lib.hid (chain HB hb5 (Nat.le_refl _))
 have H2:=Lib.hid (H3.on hb5)
 obtain ⟨a0,a1,a2,a3,a4,a5⟩:=H2.out.get3
 clear hb5 H3 H1
 go_wp2
 refine bodyPost_forget (fun W=>Blk W (w.heap.size+1+1) #[.bool r1,.string r2,.string r3]∧Below w.heap.size w W) ⟨by exact Blk.set3 H2.out _ _ _,below_set3 HB.out (by omega) _ _ _⟩ ?_
 rintro WR ⟨hr9,hb9⟩
 obtain ⟨y90,y91,y92,-,-,-⟩:=hr9.get3
 exact bodyPost_ret (v:=.tuple #[.agg #[.bool r1,.string r2,.string r3],.bool ok]) (by simp [results,Tryz.results248,go_sem,y90,y91,y92]) rfl ⟨rfl,hb9⟩
def minR (p q:Rat):Rat:=if cmpR p q≤0 then p else q
set_option maxRecDepth 100000 in
theorem min_rat (n1:Bool) (s1 d1:ByteArray) (n2:Bool) (s2 d2:ByteArray) (w:World) (h1:s1.size+d1.size≤268435456) (h2:s2.size+d2.size≤268435456) :
  Calls Tryz.prog 152 #[.agg #[.bool n1,.string s1,.string d1],.agg #[.bool n2,.string s2,.string d2]] w fun e w'=>e = .returned (rv (minR (rq n1 s1 d1) (rq n2 s2 d2)))∧Below w.heap.size w w':=by
 have HC1:=Lib.hid (fun w=>clean_agg n1 s1 d1 w (by omega) (by omega))
 have HC2:=Lib.hid (fun w=>clean_agg n2 s2 d2 w (by omega) (by omega))
 have HCC:=Lib.hid (fun w=>compare_rat n1 s1 d1 n2 s2 d2 w h1 h2)
 generalize rq n1 s1 d1=p at *
 generalize rq n2 s2 d2=q at *
 unfold rv minR
 generalize cmpR p q=c at *
 by_cases hc:c≤0
 ·rw [if_pos hc]
  generalize rn p=p1 at *
  generalize rs p=p2 at *
  generalize rd p=p3 at *
  as_aux_lemma =>
  go_enter Tryz.func152,Tryz.ntmps152
  go_wp2_with fail
  refine (HCC.out _).mono ?_;rintro e w3 ⟨rfl,hb3⟩
  obtain ⟨H1,H2,H3,HB⟩:=boxes3 hb3
  obtain ⟨a0,a1,a2,a3,a4,a5⟩:=H1.get3
  have H3:=Lib.hid H3
  clear hb3 H1 H2
  go_wp2_with fail
  refine (HC1.out _).mono ?_;rintro e w4 ⟨rfl,hb4⟩
  have HB:=Lib.hid (chain HB hb4 (Nat.le_refl _))
  have H2:=Lib.hid (H3.out.on hb4)
  obtain ⟨b0,b1,b2,b3,b4,b5⟩:=H2.out.get3
  clear hb4 H3 a0 a1 a2 a3 a4 a5
  go_wp2
  refine bodyPost_forget (fun W=>Blk W (w.heap.size+1+1) #[.bool p1,.string p2,.string p3]∧Below w.heap.size w W) ⟨by exact Blk.set3 H2.out _ _ _,below_set3 HB.out (by omega) _ _ _⟩ ?_
  rintro WR ⟨hr9,hb9⟩
  obtain ⟨y90,y91,y92,-,-,-⟩:=hr9.get3
  exact bodyPost_ret (v:=.agg #[.bool p1,.string p2,.string p3]) (by simp [results,Tryz.results152,go_sem,y90,y91,y92]) rfl ⟨rfl,hb9⟩
 ·rw [if_neg hc]
  generalize rn q=p1 at *
  generalize rs q=p2 at *
  generalize rd q=p3 at *
  have hc2:decide (c≤0)=false:=by simp;omega
  clear hc
  as_aux_lemma =>
  go_enter Tryz.func152,Tryz.ntmps152
  go_wp2_with fail
  refine (HCC.out _).mono ?_;rintro e w3 ⟨rfl,hb3⟩
  obtain ⟨H1,H2,H3,HB⟩:=boxes3 hb3
  obtain ⟨a0,a1,a2,a3,a4,a5⟩:=H2.get3
  have H3:=Lib.hid H3
  clear hb3 H1 H2
  go_wp2_with fail
  refine (HC2.out _).mono ?_;rintro e w4 ⟨rfl,hb4⟩
  have HB:=Lib.hid (chain HB hb4 (Nat.le_refl _))
  have H2:=Lib.hid (H3.out.on hb4)
  obtain ⟨b0,b1,b2,b3,b4,b5⟩:=H2.out.get3
  clear hb4 H3 a0 a1 a2 a3 a4 a5
  go_wp2
  refine bodyPost_forget (fun W=>Blk W (w.heap.size+1+1) #[.bool p1,.string p2,.string p3]∧Below w.heap.size w W) ⟨by exact Blk.set3 H2.out _ _ _,below_set3 HB.out (by omega) _ _ _⟩ ?_
  rintro WR ⟨hr9,hb9⟩
  obtain ⟨y90,y91,y92,-,-,-⟩:=hr9.get3
  exact bodyPost_ret (v:=.agg #[.bool p1,.string p2,.string p3]) (by simp [results,Tryz.results152,go_sem,y90,y91,y92]) rfl ⟨rfl,hb9⟩
def maxR (p q:Rat):Rat:=if 0≤cmpR p q then p else q
set_option maxRecDepth 100000 in
theorem max_rat (n1:Bool) (s1 d1:ByteArray) (n2:Bool) (s2 d2:ByteArray) (w:World) (h1:s1.size+d1.size≤268435456) (h2:s2.size+d2.size≤268435456) :
  Calls Tryz.prog 77 #[.agg #[.bool n1,.string s1,.string d1],.agg #[.bool n2,.string s2,.string d2]] w fun e w'=>e = .returned (rv (maxR (rq n1 s1 d1) (rq n2 s2 d2)))∧Below w.heap.size w w':=by
 have HC1:=Lib.hid (fun w=>clean_agg n1 s1 d1 w (by omega) (by omega))
 have HC2:=Lib.hid (fun w=>clean_agg n2 s2 d2 w (by omega) (by omega))
 have HCC:=Lib.hid (fun w=>compare_rat n1 s1 d1 n2 s2 d2 w h1 h2)
 generalize rq n1 s1 d1=p at *
 generalize rq n2 s2 d2=q at *
 unfold rv maxR
 generalize cmpR p q=c at *
 by_cases hc:0≤c
 ·rw [if_pos hc]
  generalize rn p=p1 at *
  generalize rs p=p2 at *
  generalize rd p=p3 at *
  as_aux_lemma =>
  go_enter Tryz.func77,Tryz.ntmps77
  go_wp2_with fail
  refine (HCC.out _).mono ?_;rintro e w3 ⟨rfl,hb3⟩
  obtain ⟨H1,H2,H3,HB⟩:=boxes3 hb3
  obtain ⟨a0,a1,a2,a3,a4,a5⟩:=H1.get3
  have H3:=Lib.hid H3
  clear hb3 H1 H2
  go_wp2_with fail
  refine (HC1.out _).mono ?_;rintro e w4 ⟨rfl,hb4⟩
  have HB:=Lib.hid (chain HB hb4 (Nat.le_refl _))
  have H2:=Lib.hid (H3.out.on hb4)
  obtain ⟨b0,b1,b2,b3,b4,b5⟩:=H2.out.get3
  clear hb4 H3 a0 a1 a2 a3 a4 a5
  go_wp2
  refine bodyPost_forget (fun W=>Blk W (w.heap.size+1+1) #[.bool p1,.string p2,.string p3]∧Below w.heap.size w W) ⟨by exact Blk.set3 H2.out _ _ _,below_set3 HB.out (by omega) _ _ _⟩ ?_
  rintro WR ⟨hr9,hb9⟩
  obtain ⟨y90,y91,y92,-,-,-⟩:=hr9.get3
  exact bodyPost_ret (v:=.agg #[.bool p1,.string p2,.string p3]) (by simp [results,Tryz.results77,go_sem,y90,y91,y92]) rfl ⟨rfl,hb9⟩
 ·rw [if_neg hc]
  generalize rn q=p1 at *
  generalize rs q=p2 at *
  generalize rd q=p3 at *
  have hc2:decide (0≤c)=false:=by simp;omega
  clear hc
  as_aux_lemma =>
  go_enter Tryz.func77,Tryz.ntmps77
  go_wp2_with fail
  refine (HCC.out _).mono ?_;rintro e w3 ⟨rfl,hb3⟩
  obtain ⟨H1,H2,H3,HB⟩:=boxes3 hb3
  obtain ⟨a0,a1,a2,a3,a4,a5⟩:=H2.get3
  have H3:=Lib.hid H3
  clear hb3 H1 H2
  go_wp2_with fail
  refine (HC2.out _).mono ?_;rintro e w4 ⟨rfl,hb4⟩
  have HB:=Lib.hid (chain HB hb4 (Nat.le_refl _))
  have H2:=Lib.hid (H3.out.on hb4)
  obtain ⟨b0,b1,b2,b3,b4,b5⟩:=H2.out.get3
  clear hb4 H3 a0 a1 a2 a3 a4 a5
  go_wp2
  refine bodyPost_forget (fun W=>Blk W (w.heap.size+1+1) #[.bool p1,.string p2,.string p3]∧Below w.heap.size w W) ⟨by exact Blk.set3 H2.out _ _ _,below_set3 HB.out (by omega) _ _ _⟩ ?_
  rintro WR ⟨hr9,hb9⟩
  obtain ⟨y90,y91,y92,-,-,-⟩:=hr9.get3
  exact bodyPost_ret (v:=.agg #[.bool p1,.string p2,.string p3]) (by simp [results,Tryz.results77,go_sem,y90,y91,y92]) rfl ⟨rfl,hb9⟩
set_option maxRecDepth 100000 in
theorem rdivide_less (ax ay:Option Addr) (lx ly cx cy x y:Nat) (w:World) (hX:Limbs w ax lx x) (hY:Limbs w ay ly y) (hlt:x<y) (h0:lx≤1073741824) (h1:lx≤cx) (h2:cx≤9223372036854775807) (h3:ly≤4294967296) :
  Calls Tryz.prog 187 #[.slice ax lx cx,.slice ay ly cy] w (RetDiv w x y):=by
 have HX:=Lib.hid hX
 have HY:=Lib.hid hY
 have HL:=Lib.hid hlt
 have hcm:decide (cmpN x y<0)=true:=by rw [cmpN_lt hlt];rfl
 clear hX hY hlt
 go_enter Tryz.func187,Tryz.ntmps187
 go_wp2_with fail
 refine (order_any _ _ _ _ _ _ _ _ _ HX.out HY.out (by omega) (by omega)).mono ?_
 rintro e w3 ⟨rfl,hb3⟩
 have hb:=Lib.hid hb3
 clear hb3
 go_wp2
 go_ret2
 refine ⟨none,0,0,ax,lx,cx,rfl,by omega,by omega,h1,h2,?_,?_,hb.out⟩
 ·rw [Nat.div_eq_of_lt HL.out];exact limbs_nil _
 ·rw [Nat.mod_eq_of_lt HL.out];exact HX.out.below hb.out (Nat.le_refl _)
set_option maxRecDepth 100000 in
theorem rdivide_small (ax ay:Option Addr) (lx cx cy x y:Nat) (w:World) (hX:Limbs w ax lx x) (hY:Limbs w ay 1 y) (hle:y≤x) (h1:lx≤1073741824) :
  Calls Tryz.prog 187 #[.slice ax lx cx,.slice ay 1 cy] w (RetDiv w x y):=by
 have hcm:decide (cmpN x y<0)=false:=by unfold cmpN;rw [if_neg (by omega)];split <;> rfl
 have hy0:0<y:=by
  rcases Nat.eq_zero_or_pos y with e|e
  ·have:=hY.zero_iff.mp e;omega
  ·exact e
 have hlx:0<lx:=by
  rcases Nat.eq_zero_or_pos lx with e|e
  ·have:=hX.zero_iff.mpr e;omega
  ·exact e
 have HX:=Lib.hid hX
 have HY:=Lib.hid hY
 clear hX hY hle
 go_enter Tryz.func187,Tryz.ntmps187
 go_wp2_with fail
 refine (order_any _ _ _ _ _ _ _ _ _ HX.out HY.out (by omega) (by omega)).mono ?_
 rintro e w3 ⟨rfl,hb3⟩
 have HX3:=HX.out.below hb3 (Nat.le_refl _)
 have HY3:=HY.out.below hb3 (Nat.le_refl _)
 obtain ⟨fx,ex,kx,rx⟩:=HX3
 obtain ⟨fy,ey,ky,ry⟩:=HY3
 rcases rx with h0|⟨b1,o1,rfl,rx⟩
 ·omega
 rcases ry with h0|⟨b2,o2,rfl,ry⟩
 ·omega
 have hcell:=ry 0 (by omega)
 have hy1:fy 0=y:=by rw [← ey];simp [lv]
 have hyl:y<LB:=by rw [← hy1];exact ky.1 0 (by omega)
 rw [hy1,Nat.add_zero] at hcell
 have RX:=Lib.hid rx
 have KX:=Lib.hid kx
 have EX:=Lib.hid ex
 have hb:=Lib.hid hb3
 clear rx ry kx ky ex ey hy1 hb3 HX HY
 go_wp2_with fail
 refine (short_walk _ _ _ _ _ _ _ h1 RX.out KX.out.1 hy0 hyl hlx).mono ?_
 rintro e w4 ⟨aq,lq,cq,rfl,g1,g2,g3,g4⟩
 rw [EX.out] at g3 ⊢
 have G3:=Lib.hid g3
 have G4:=Lib.hid g4
 clear g3 g4
 have hr:x%y<LB:=Nat.lt_trans (Nat.mod_lt _ hy0) hyl
 have hrow:=row_one w4 179 (x%y)
 generalize hR:x%y=R at *
 have HR:=Lib.hid hR
 have HROW:=Lib.hid hrow
 clear hR hrow
 have hlv:lv (fun _=>R) 1=R:=by simp [lv]
 have HLV:=Lib.hid hlv
 clear hlv
 go_wp2_with fail
 refine (strip_row w4 w4.heap.size 1 179 (fun _=>R) _ (by omega) HROW.out (fun _ _=>hr) ((Below.refl _ _).alloc (Nat.le_refl _) _)).mono ?_
 rintro e w5 ⟨ar,lr,cr,rfl,k1,k2,k3,k4⟩
 rw [HLV.out] at k3
 have K3:=Lib.hid k3
 have K4:=Lib.hid k4
 clear k3 k4
 go_wp2
 go_ret2
 refine ⟨aq,lq,cq,ar,lr,cr,rfl,g1,g2,k1,k2,G3.out.below K4.out (Nat.le_refl _),?_,?_⟩
 ·rw [HR.out];exact K3.out
 ·exact hb.out.trans ((G4.out.mono hb.out.size).trans (K4.out.mono (Nat.le_trans hb.out.size G4.out.size)))
set_option maxRecDepth 100000 in
theorem rdivide_long (ax ay:Option Addr) (lx ly cx cy x y:Nat) (w:World) (hX:Limbs w ax lx x) (hY:Limbs w ay ly y) (hle:y≤x) (h1:lx≤1073741824) (hly:2≤ly) (h4:ly≤1073741824) :
  Calls Tryz.prog 187 #[.slice ax lx cx,.slice ay ly cy] w (RetDiv w x y):=by
 have hcm:decide (cmpN x y<0)=false:=by unfold cmpN;rw [if_neg (by omega)];split <;> rfl
 have hl1:((ly:Int) == 1)=false:=by simp;omega
 have HX:=Lib.hid hX
 have HY:=Lib.hid hY
 have HLE:=Lib.hid hle
 clear hX hY hle
 go_enter Tryz.func187,Tryz.ntmps187
 go_wp2_with fail
 refine (order_any _ _ _ _ _ _ _ _ _ HX.out HY.out (by omega) (by omega)).mono ?_
 rintro e w3 ⟨rfl,hb3⟩
 have HX3:=Lib.hid (HX.out.below hb3 (Nat.le_refl _))
 have HY3:=Lib.hid (HY.out.below hb3 (Nat.le_refl _))
 have hb:=Lib.hid hb3
 clear hb3 HX HY
 go_wp2_with fail
 refine (long_walk _ _ _ _ _ _ _ _ _ HX3.out HY3.out HLE.out h1 hly).mono ?_
 rintro e w4 ⟨aq,lq,cq,ar,lr,cr,rfl,g1,g2,g3,g4,g5,g6,g7⟩
 have G5:=Lib.hid g5
 have G6:=Lib.hid g6
 have G7:=Lib.hid (chain hb.out g7 (Nat.le_refl _))
 clear g5 g6 g7
 go_wp2
 go_ret2
 exact ⟨aq,lq,cq,ar,lr,cr,rfl,g1,g2,g3,g4,G5.out,G6.out,G7.out⟩
theorem rdivide_any (ax ay:Option Addr) (lx ly cx cy x y:Nat) (w:World) (hX:Limbs w ax lx x) (hY:Limbs w ay ly y) (hy:0<y) (h1:lx≤1073741824) (h2:lx≤cx) (h3:cx≤9223372036854775807) (h4:ly≤1073741824) :
  Calls Tryz.prog 187 #[.slice ax lx cx,.slice ay ly cy] w (RetDiv w x y):=by
 have hly:0<ly:=by
  rcases Nat.eq_zero_or_pos ly with e|e
  ·have:=hY.zero_iff.mpr e;omega
  ·exact e
 by_cases hlt:x<y
 ·exact rdivide_less ax ay lx ly cx cy x y w hX hY hlt h1 h2 h3 (by omega)
 ·by_cases h5:ly=1
  ·subst h5;exact rdivide_small ax ay lx cx cy x y w hX hY (by omega) h1
  ·exact rdivide_long ax ay lx ly cx cy x y w hX hY (by omega) h1 (by omega) h4
def LimV (w:World) (a:Option Addr) (l c x:Nat):Prop:=l≤c∧c≤9223372036854775807∧l≤1073741824∧Limbs w a l x
set_option maxRecDepth 100000 in
theorem common_any (ax ay:Option Addr) (lx ly cx cy x y:Nat) (w:World) (h1:LimV w ax lx cx x) (h2:LimV w ay ly cy y) :
  Calls Tryz.prog 176 #[.slice ax lx cx,.slice ay ly cy] w (RetLimbs w (Nat.gcd x y)):=by
 have hstart:GcdRel w w (Nat.gcd x y) y (.slice ax lx cx) (.slice ay ly cy) :=
  ⟨ax,lx,cx,ay,ly,cy,x,rfl,rfl,h1.1,h1.2.1,h1.2.2.1,h2.1,h2.2.1,h2.2.2.1,h1.2.2.2,h2.2.2.2,rfl,Below.refl _ _⟩
 have HS:=Lib.hid hstart
 clear h1 h2 hstart
 go_enter Tryz.func176,Tryz.ntmps176
 go_wp2_with fail
 go_loopg [0,1] y (fun k vx vy wr=>GcdRel w wr (Nat.gcd x y) k vx vy)
 case atStart=>exact HS.out
 case round =>
  obtain ⟨ax,lx,cx,ay,ly,cy,X,rfl,rfl,h1,h2,h3,h4,h5,h6,hX,hY,hg,hbel⟩:=hrel
  clear HS
  have HX:=Lib.hid hX
  have HY:=Lib.hid hY
  have HG:=Lib.hid hg
  have HB:=Lib.hid hbel
  by_cases h0:ly=0
  ·as_aux_lemma =>
   subst h0
   have hk:=hY.zero_iff.mpr rfl
   have HK:=Lib.hid hk
   clear hk hX hY hg hbel
   go_wp2_with fail
   go_ret
   refine ⟨ax,lx,cx,rfl,h1,h2,?_,HB.out⟩
   have:=HG.out
   rw [HK.out,Nat.gcd_zero_right] at this
   rw [← this];exact HX.out
  ·as_aux_lemma =>
   have hk:0<gk:=by
    rcases Nat.eq_zero_or_pos gk with e|e
    ·have:=hY.zero_iff.mp e;omega
    ·exact e
   have hl0:decide ((0:Int)<(ly:Int))=true:=by simp;omega
   clear hX hY hg hbel
   go_wp2_with fail
   refine (rdivide_any _ _ _ _ _ _ _ _ _ HX.out HY.out hk h3 h1 h2 h6).mono ?_
   rintro e w3 ⟨aq,lq,cq,ar,lr,cr,rfl,g1,g2,g3,g4,g5,g6,g7⟩
   have hlr:lr≤ly:=g6.len_le (Nat.lt_trans (Nat.mod_lt _ hk) HY.out.lt)
   have hnew:GcdRel w w3 (Nat.gcd x y) (X%gk) (.slice ay ly cy) (.slice ar lr cr) :=
    ⟨ay,ly,cy,ar,lr,cr,gk,rfl,rfl,h4,h5,h6,g3,g4,by omega,HY.out.below g7 (Nat.le_refl _),g6,by rw [← HG.out,Nat.gcd_comm X gk,Nat.gcd_rec gk X,Nat.gcd_comm],HB.out.trans (g7.mono HB.out.size)⟩
   have HN:=Lib.hid hnew
   have HML:=Lib.hid (Nat.mod_lt X hk)
   clear hnew g5 g6 g7
   go_wp2_with fail
   go_roundg (X%gk)
   case measure=>exact HML.out
   case rel=>exact HN.out
theorem RetLimbs.lim {w w' : World} {a:Option Addr} {l x k:Nat} (h:Limbs w' a l x) (hx:x<256 ^ k) (hk:k≤1073741824):l≤(k+3)/4:=by
 refine h.len_le ?_
 rw [LB_pow]
 exact Nat.lt_of_lt_of_le hx (Nat.pow_le_pow_right (by omega) (by omega))
set_option maxRecDepth 100000 in
theorem rgcd_any (a b:ByteArray) (w:World) (ha:a.size≤268435456) (hb:b.size≤268435456) :
  Calls Tryz.prog 124 #[.string a,.string b] w fun e w'=>e = .returned (.string (bn (Nat.gcd (nv a) (nv b))))∧Below w.heap.size w w':=by
 go_enter Tryz.func124,Tryz.ntmps124
 go_wp2_with fail
 refine (rlimbs_any a _ (by omega)).mono ?_;rintro e w1 ⟨ax,lx,cx,rfl,lcx,ccx,hX1,hb1⟩
 go_wp2_with fail
 refine (rlimbs_any b _ (by omega)).mono ?_;rintro e w2 ⟨ay,ly,cy,rfl,lcy,ccy,hY,hb2⟩
 have hX:=hX1.below hb2 (Nat.le_refl _)
 have l1:=RetLimbs.lim (w:=w) hX (nv_lt a) (by omega)
 have l2:=RetLimbs.lim (w:=w) hY (nv_lt b) (by omega)
 have h1:LimV w2 ax lx cx (nv a):=⟨lcx,ccx,by omega,hX⟩
 have h2:LimV w2 ay ly cy (nv b):=⟨lcy,ccy,by omega,hY⟩
 have H1:=Lib.hid h1
 have H2:=Lib.hid h2
 have HB:=Lib.hid (chain hb1 hb2 (Nat.le_refl _))
 clear hX hX1 hY hb1 hb2 h1 h2
 go_wp2_with fail
 refine (common_any _ _ _ _ _ _ _ _ _ H1.out H2.out).mono ?_;rintro e w3 ⟨ag,lg,cg,rfl,lcg,ccg,hG,hb3⟩
 have l3:lg≤(a.size+3)/4∨lg≤(b.size+3)/4:=by
  rcases Nat.eq_zero_or_pos (nv a) with h|h
  ·right
   rw [h,Nat.gcd_zero_left] at hG
   exact RetLimbs.lim (w:=w) hG (nv_lt b) (by omega)
  ·left
   exact RetLimbs.lim (w:=w) hG (Nat.lt_of_le_of_lt (Nat.gcd_le_left _ h) (nv_lt a)) (by omega)
 have hlg:lg≤268435456:=by omega
 have HG:=Lib.hid hG
 have HB:=Lib.hid (chain HB.out hb3 (Nat.le_refl _))
 clear hb3 hG H1 H2
 go_wp2_with fail
 refine (rtext_any _ _ _ _ _ HG.out hlg lcg).mono ?_;rintro e w4 ⟨rfl,hb4⟩
 have HB:=Lib.hid (chain HB.out hb4 (Nat.le_refl _))
 clear hb4 HG
 go_wp2
 go_ret
 exact ⟨rfl,HB.out⟩
set_option maxRecDepth 100000 in
theorem rvalid_1 (n:Bool) (s d:ByteArray) (w:World) (hs:s.size≤268435456) (h : ¬ bn (nv s)=s) :
  Calls Tryz.prog 74 #[.agg #[.bool n,.string s,.string d]] w fun e w'=>e = .returned (.bool false)∧Below w.heap.size w w':=by
 have hN : ∀ w,Calls Tryz.prog 123 #[.string s] w fun e w'=>e = .returned (.string (bn (nv s)))∧w=w':=fun w=>rNormalize_any s w (by omega)
 generalize bn (nv s)=t at *
 have h1:=str_ne h
 have HN:=Lib.hid hN
 clear hN h
 go_enter Tryz.func74,Tryz.ntmps74
 go_wp2
 refine wp_forget (fun W=>RatAt W w.heap.size 0 n s d∧Below w.heap.size w W) ⟨⟨by simp [go_sem],by simp [go_sem],by simp [go_sem]⟩,(Below.refl _ _).alloc (Nat.le_refl _) _⟩ ?_
 rintro W ⟨⟨c0,c1,c2⟩,hb⟩
 have k0:=cell_regrown c0
 have k1:=cell_regrown c1
 have k2:=cell_regrown c2
 refine wp_region_qb (by kernel_rfl) (by kernel_rfl) ?_
 repeat (first|go_big_quiet_skip|quiet_step (first|with_reducible exact Calls.later_same (HN.out _)))
 refine wpQuiet_nil ?_
 intro W1 hb1
 go_wp2
 go_ret
 exact ⟨rfl,hb.trans (hb1.mono hb.size)⟩
set_option maxRecDepth 100000 in
theorem rvalid_2 (n:Bool) (s d:ByteArray) (w:World) (hs:s.size≤268435456) (hd:d.size≤268435456) (h0:bn (nv s)=s) (h : ¬ bn (nv d)=d) :
  Calls Tryz.prog 74 #[.agg #[.bool n,.string s,.string d]] w fun e w'=>e = .returned (.bool false)∧Below w.heap.size w w':=by
 have hM : ∀ w,Calls Tryz.prog 123 #[.string s] w fun e w'=>e = .returned (.string s)∧w=w':=fun w=>by
  have:=rNormalize_any s w (by omega);rw [h0] at this;exact this
 have hN : ∀ w,Calls Tryz.prog 123 #[.string d] w fun e w'=>e = .returned (.string (bn (nv d)))∧w=w':=fun w=>rNormalize_any d w (by omega)
 generalize bn (nv d)=t at *
 have h1:=str_ne h
 have HN:=Lib.hid hN
 have HM:=Lib.hid hM
 clear hN hM h h0
 go_enter Tryz.func74,Tryz.ntmps74
 go_wp2
 refine wp_forget (fun W=>RatAt W w.heap.size 0 n s d∧Below w.heap.size w W) ⟨⟨by simp [go_sem],by simp [go_sem],by simp [go_sem]⟩,(Below.refl _ _).alloc (Nat.le_refl _) _⟩ ?_
 rintro W ⟨⟨c0,c1,c2⟩,hb⟩
 have k0:=cell_regrown c0
 have k1:=cell_regrown c1
 have k2:=cell_regrown c2
 refine wp_region_qb (by kernel_rfl) (by kernel_rfl) ?_
 repeat (first|go_big_quiet_skip|quiet_step (first|with_reducible exact Calls.later_same (HM.out _)|with_reducible exact Calls.later_same (HN.out _)))
 refine wpQuiet_nil ?_
 intro W1 hb1
 go_wp2
 go_ret
 exact ⟨rfl,hb.trans (hb1.mono hb.size)⟩
set_option maxRecDepth 100000 in
theorem rvalid_3 (n:Bool) (d:ByteArray) (w:World) (hd:d.size≤268435456) (h:bn (nv d)=d) (hd2:d≠⟨#[1]⟩) :
  Calls Tryz.prog 74 #[.agg #[.bool n,.string ⟨#[]⟩,.string d]] w fun e w'=>e = .returned (.bool (!n && decide (d.size=0)))∧Below w.heap.size w w':=by
 have hM : ∀ w,Calls Tryz.prog 123 #[.string ⟨#[]⟩] w fun e w'=>e = .returned (.string ⟨#[]⟩)∧w=w':=fun w=>rNormalize_any ⟨#[]⟩ w (by decide)
 have hN : ∀ w,Calls Tryz.prog 123 #[.string d] w fun e w'=>e = .returned (.string d)∧w=w':=fun w=>by
  have:=rNormalize_any d w (by omega);rw [h] at this;exact this
 have HN:=Lib.hid hN
 have HM:=Lib.hid hM
 have h5:=str_ne_one hd2
 clear hN hM h hd2
 by_cases h0:d.size=0
 ·obtain rfl:=toList_of_empty h0
  have e1:(!n && decide ((⟨#[]⟩:ByteArray).size=0)) = !n:=by cases n <;> rfl
  rw [e1]
  clear h0 hd e1 h5
  cases n
  all_goals
   go_enter Tryz.func74,Tryz.ntmps74
   go_wp2
   refine wp_forget (fun W=>RatAt W w.heap.size 0 _ ⟨#[]⟩ ⟨#[]⟩∧Below w.heap.size w W) ⟨⟨by simp [go_sem];rfl,by simp [go_sem],by simp [go_sem]⟩,(Below.refl _ _).alloc (Nat.le_refl _) _⟩ ?_
   rintro W ⟨⟨c0,c1,c2⟩,hb⟩
   have k0:=cell_regrown c0
   have k1:=cell_regrown c1
   have k2:=cell_regrown c2
   refine wp_region_qb (by kernel_rfl) (by kernel_rfl) ?_
   repeat (first|go_big_quiet_skip|quiet_step (first|with_reducible exact Calls.later_same (HM.out _)))
   refine wpQuiet_nil ?_
   intro W1 hb1
   have hlt:=block_lt_of_cell c0
   have g0:=(hb1.cell hlt).trans c0
   have g1:=(hb1.cell (p:=⟨w.heap.size,0+1,none⟩) hlt).trans c1
   have g2:=(hb1.cell (p:=⟨w.heap.size,0+2,none⟩) hlt).trans c2
   go_wp2
   go_ret
   exact ⟨rfl,hb.trans (hb1.mono hb.size)⟩
 ·obtain ⟨h1,h2⟩:=toList_of_pos h0
  have e1:(!n && decide (d.size=0))=false:=by rw [decide_eq_false h0];cases n <;> rfl
  rw [e1]
  clear h0 hd e1
  cases n
  all_goals
   go_enter Tryz.func74,Tryz.ntmps74
   go_wp2
   refine wp_forget (fun W=>RatAt W w.heap.size 0 _ ⟨#[]⟩ d∧Below w.heap.size w W) ⟨⟨by simp [go_sem];rfl,by simp [go_sem],by simp [go_sem]⟩,(Below.refl _ _).alloc (Nat.le_refl _) _⟩ ?_
   rintro W ⟨⟨c0,c1,c2⟩,hb⟩
   have k0:=cell_regrown c0
   have k1:=cell_regrown c1
   have k2:=cell_regrown c2
   refine wp_region_qb (by kernel_rfl) (by kernel_rfl) ?_
   repeat (first|go_big_quiet_skip|quiet_step (first|with_reducible exact Calls.later_same (HM.out _)|with_reducible exact Calls.later_same (HN.out _)))
   refine wpQuiet_nil ?_
   intro W1 hb1
   have hlt:=block_lt_of_cell c0
   have g0:=(hb1.cell hlt).trans c0
   have g1:=(hb1.cell (p:=⟨w.heap.size,0+1,none⟩) hlt).trans c1
   have g2:=(hb1.cell (p:=⟨w.heap.size,0+2,none⟩) hlt).trans c2
   go_wp2
   go_ret
   exact ⟨rfl,hb.trans (hb1.mono hb.size)⟩
set_option maxRecDepth 100000 in
theorem rvalid_4 (n:Bool) (s:ByteArray) (w:World) (hs:s.size≤268435456) (h:bn (nv s)=s) (h0 : ¬ s.size=0) :
  Calls Tryz.prog 74 #[.agg #[.bool n,.string s,.string ⟨#[]⟩]] w fun e w'=>e = .returned (.bool true)∧Below w.heap.size w w':=by
 have hM : ∀ w,Calls Tryz.prog 123 #[.string ⟨#[]⟩] w fun e w'=>e = .returned (.string ⟨#[]⟩)∧w=w':=fun w=>rNormalize_any ⟨#[]⟩ w (by decide)
 have hN : ∀ w,Calls Tryz.prog 123 #[.string s] w fun e w'=>e = .returned (.string s)∧w=w':=fun w=>by
  have:=rNormalize_any s w (by omega);rw [h] at this;exact this
 have HN:=Lib.hid hN
 have HM:=Lib.hid hM
 obtain ⟨h1,h2⟩:=toList_of_pos h0
 clear hN hM h h0
 go_enter Tryz.func74,Tryz.ntmps74
 go_wp2
 refine wp_forget (fun W=>RatAt W w.heap.size 0 n s ⟨#[]⟩∧Below w.heap.size w W) ⟨⟨by simp [go_sem],by simp [go_sem],by simp [go_sem]⟩,(Below.refl _ _).alloc (Nat.le_refl _) _⟩ ?_
 rintro W ⟨⟨c0,c1,c2⟩,hb⟩
 have k0:=cell_regrown c0
 have k1:=cell_regrown c1
 have k2:=cell_regrown c2
 refine wp_region_qb (by kernel_rfl) (by kernel_rfl) ?_
 repeat (first|go_big_quiet_skip|quiet_step (first|with_reducible exact Calls.later_same (HM.out _)|with_reducible exact Calls.later_same (HN.out _)))
 refine wpQuiet_nil ?_
 intro W1 hb1
 have hlt:=block_lt_of_cell c0
 have g0:=(hb1.cell hlt).trans c0
 have g1:=(hb1.cell (p:=⟨w.heap.size,0+1,none⟩) hlt).trans c1
 have g2:=(hb1.cell (p:=⟨w.heap.size,0+2,none⟩) hlt).trans c2
 go_wp2
 go_ret
 exact ⟨rfl,hb.trans (hb1.mono hb.size)⟩
set_option maxRecDepth 100000 in
theorem rvalid_5 (n:Bool) (s:ByteArray) (w:World) (hs:s.size≤268435456) (h:bn (nv s)=s) :
  Calls Tryz.prog 74 #[.agg #[.bool n,.string s,.string ⟨#[1]⟩]] w fun e w'=>e = .returned (.bool false)∧Below w.heap.size w w':=by
 have hM : ∀ w,Calls Tryz.prog 123 #[.string ⟨#[1]⟩] w fun e w'=>e = .returned (.string ⟨#[1]⟩)∧w=w':=fun w=>by
  have:=rNormalize_any ⟨#[1]⟩ w (by decide);rw [show nv ⟨#[1]⟩=1 by decide,bn_one] at this;exact this
 have hN : ∀ w,Calls Tryz.prog 123 #[.string s] w fun e w'=>e = .returned (.string s)∧w=w':=fun w=>by
  have:=rNormalize_any s w (by omega);rw [h] at this;exact this
 have HN:=Lib.hid hN
 have HM:=Lib.hid hM
 clear hN hM h
 go_enter Tryz.func74,Tryz.ntmps74
 go_wp2
 refine wp_forget (fun W=>RatAt W w.heap.size 0 n s ⟨#[1]⟩∧Below w.heap.size w W) ⟨⟨by simp [go_sem],by simp [go_sem],by simp [go_sem]⟩,(Below.refl _ _).alloc (Nat.le_refl _) _⟩ ?_
 rintro W ⟨⟨c0,c1,c2⟩,hb⟩
 have k0:=cell_regrown c0
 have k1:=cell_regrown c1
 have k2:=cell_regrown c2
 refine wp_region_qb (by kernel_rfl) (by kernel_rfl) ?_
 repeat (first|go_big_quiet_skip|quiet_step (first|with_reducible exact Calls.later_same (HM.out _)|with_reducible exact Calls.later_same (HN.out _)))
 refine wpQuiet_nil ?_
 intro W1 hb1
 have hlt:=block_lt_of_cell c0
 have g0:=(hb1.cell hlt).trans c0
 have g1:=(hb1.cell (p:=⟨w.heap.size,0+1,none⟩) hlt).trans c1
 have g2:=(hb1.cell (p:=⟨w.heap.size,0+2,none⟩) hlt).trans c2
 go_wp2
 go_ret
 exact ⟨rfl,hb.trans (hb1.mono hb.size)⟩
set_option maxRecDepth 100000 in
theorem rvalid_6 (n:Bool) (s d:ByteArray) (w:World) (hs:s.size≤268435456) (hd:d.size≤268435456) (h:bn (nv s)=s) (h0 : ¬ s.size=0) (hd1:bn (nv d)=d) (hd0 : ¬ d.size=0) (hd2:d≠⟨#[1]⟩) :
  Calls Tryz.prog 74 #[.agg #[.bool n,.string s,.string d]] w fun e w'=>e = .returned (.bool (decide (Nat.gcd (nv s) (nv d)=1)))∧Below w.heap.size w w':=by
 have hM : ∀ w,Calls Tryz.prog 123 #[.string d] w fun e w'=>e = .returned (.string d)∧w=w':=fun w=>by
  have:=rNormalize_any d w (by omega);rw [hd1] at this;exact this
 have hN : ∀ w,Calls Tryz.prog 123 #[.string s] w fun e w'=>e = .returned (.string s)∧w=w':=fun w=>by
  have:=rNormalize_any s w (by omega);rw [h] at this;exact this
 have HN:=Lib.hid hN
 have HM:=Lib.hid hM
 obtain ⟨h1,h2⟩:=toList_of_pos h0
 obtain ⟨h3,h4⟩:=toList_of_pos hd0
 have h5:=str_ne_one hd2
 have HE:=Lib.hid (eq_one_iff (Nat.gcd (nv s) (nv d)))
 clear hN hM h h0 hd0 hd1 hd2
 go_enter Tryz.func74,Tryz.ntmps74
 go_wp2
 refine wp_forget (fun W=>RatAt W w.heap.size 0 n s d∧Below w.heap.size w W) ⟨⟨by simp [go_sem],by simp [go_sem],by simp [go_sem]⟩,(Below.refl _ _).alloc (Nat.le_refl _) _⟩ ?_
 rintro W ⟨⟨c0,c1,c2⟩,hb⟩
 have k0:=cell_regrown c0
 have k1:=cell_regrown c1
 have k2:=cell_regrown c2
 refine wp_region_qb (by kernel_rfl) (by kernel_rfl) ?_
 repeat (first|go_big_quiet_skip|quiet_step (first|with_reducible exact Calls.later_same (HM.out _)|with_reducible exact Calls.later_same (HN.out _)))
 refine wpQuiet_nil ?_
 intro W1 hb1
 have hlt:=block_lt_of_cell c0
 have g0:=(hb1.cell hlt).trans c0
 have g1:=(hb1.cell (p:=⟨w.heap.size,0+1,none⟩) hlt).trans c1
 have g2:=(hb1.cell (p:=⟨w.heap.size,0+2,none⟩) hlt).trans c2
 go_wp2_with fail
 refine (rgcd_any s d _ hs hd).mono ?_;rintro e w3 ⟨rfl,hb3⟩
 go_wp2
 go_ret
 have hz:=hb.size
 have hz1:=hb1.size
 exact ⟨ret_bool HE.out,hb.trans ((hb1.mono hz).trans (hb3.mono (by omega)))⟩
theorem rvalid_any (n:Bool) (s d:ByteArray) (w:World) (hs:s.size≤268435456) (hd:d.size≤268435456) :
  Calls Tryz.prog 74 #[.agg #[.bool n,.string s,.string d]] w fun e w'=>e = .returned (.bool (vldB n s d))∧Below w.heap.size w w':=by
 by_cases h1:bn (nv s)=s
 ·by_cases h2:bn (nv d)=d
  ·by_cases h3:s.size=0
   ·obtain rfl:=toList_of_empty h3
    by_cases h5:d=⟨#[1]⟩
    ·subst h5
     rw [vldB_false fun h=>by have:=(h.2.2.1 rfl).2;exact absurd this (by decide)]
     exact rvalid_5 n ⟨#[]⟩ w hs h1
    have e:vldB n ⟨#[]⟩ d=(!n && decide (d.size=0)):=by
     by_cases h4:d.size=0
     ·obtain rfl:=toList_of_empty h4
      cases n
      ·exact vldB_true ⟨h1,h2,fun _=>⟨rfl,rfl⟩,.inl rfl⟩
      ·exact vldB_false fun h=>by have:=(h.2.2.1 rfl).1;exact absurd this (by decide)
     ·rw [decide_eq_false h4,Bool.and_false]
      exact vldB_false fun h=>nv_pos h2 h4 (h.2.2.1 rfl).2
    rw [e];exact rvalid_3 n d w hd h2 h5
   ·have n1:=nv_pos h1 h3
    by_cases h4:d.size=0
    ·obtain rfl:=toList_of_empty h4
     rw [vldB_true ⟨h1,h2,fun h=>absurd h n1,.inl rfl⟩]
     exact rvalid_4 n s w hs h1 h3
    ·have n2:=nv_pos h2 h4
     by_cases h5:d=⟨#[1]⟩
     ·subst h5
      rw [vldB_false fun h=>by
       have e1:nv ⟨#[1]⟩=1:=rfl
       rcases h.2.2.2 with h6|⟨h6,_⟩
       ·rw [e1] at h6;exact absurd h6 (by decide)
       ·exact h6 e1]
      exact rvalid_5 n s w hs h1
     ·have n3:nv d≠1:=fun e=>h5 (by rw [← h2,e,bn_one])
      have e:vldB n s d=decide (Nat.gcd (nv s) (nv d)=1):=by
       by_cases h6:Nat.gcd (nv s) (nv d)=1
       ·rw [decide_eq_true h6];exact vldB_true ⟨h1,h2,fun h=>absurd h n1,.inr ⟨n3,h6⟩⟩
       ·rw [decide_eq_false h6];exact vldB_false fun h=>by
         rcases h.2.2.2 with h7|⟨_,h7⟩
         ·exact n2 h7
         ·exact h6 h7
      rw [e];exact rvalid_6 n s d w hs hd h1 h3 h2 h4 h5
  ·rw [vldB_false fun h=>h2 h.2.1];exact rvalid_2 n s d w hs hd h1 h2
 ·rw [vldB_false fun h=>h1 h.1];exact rvalid_1 n s d w hs h1
set_option maxRecDepth 100000 in
theorem fix_any (n:Bool) (s d:ByteArray) (w:World) (hs:s.size≤268435456) (hd:d.size≤268435456) :
  Calls Tryz.prog 40 #[.agg #[.bool n,.string s,.string d]] w fun e w'=>e = .returned (rv (rq n s d))∧Below w.heap.size w w':=by
 have hv:=fun w=>rvalid_any n s d w hs hd
 by_cases h:vld n s d
 ·rw [rv_vld h]
  rw [vldB_true h] at hv
  have HV:=Lib.hid hv
  clear h hv
  go_enter Tryz.func40,Tryz.ntmps40
  go_wp2_with fail
  refine (HV.out _).mono ?_;rintro e w3 ⟨rfl,hb3⟩
  obtain ⟨H1,H2,HB⟩:=boxes2 hb3
  obtain ⟨a0,a1,a2,-,-,-⟩:=H1.get3
  obtain ⟨b0,b1,b2,f0,f1,f2⟩:=H2.get3
  have HB:=Lib.hid HB
  have H2:=Lib.hid H2
  clear hb3 H1
  go_wp2
  refine bodyPost_forget (fun W=>Blk W (w.heap.size+1) #[.bool n,.string s,.string d]∧Below w.heap.size w W) ⟨by exact Blk.set3 H2.out _ _ _,below_set3 HB.out (by omega) _ _ _⟩ ?_
  rintro WR ⟨hr9,hb9⟩
  obtain ⟨y90,y91,y92,-,-,-⟩:=hr9.get3
  exact bodyPost_ret (v:=.agg #[.bool n,.string s,.string d]) (by simp [results,Tryz.results40,go_sem,y90,y91,y92]) rfl ⟨rfl,hb9⟩
 ·rw [rv_bad h]
  rw [vldB_false h] at hv
  have HV:=Lib.hid hv
  clear h hv
  go_enter Tryz.func40,Tryz.ntmps40
  go_wp2_with fail
  refine (HV.out _).mono ?_;rintro e w3 ⟨rfl,hb3⟩
  obtain ⟨H1,H2,HB⟩:=boxes2 hb3
  obtain ⟨a0,a1,a2,-,-,-⟩:=H1.get3
  obtain ⟨b0,b1,b2,f0,f1,f2⟩:=H2.get3
  have HB:=Lib.hid HB
  have H2:=Lib.hid H2
  clear hb3 H1
  go_wp2
  refine bodyPost_forget (fun W=>Blk W (w.heap.size+1) #[.bool false,.string ⟨#[]⟩,.string ⟨#[]⟩]∧Below w.heap.size w W) ⟨by exact Blk.set3 H2.out _ _ _,below_set3 HB.out (by omega) _ _ _⟩ ?_
  rintro WR ⟨hr9,hb9⟩
  obtain ⟨y90,y91,y92,-,-,-⟩:=hr9.get3
  exact bodyPost_ret (v:=.agg #[.bool false,.string ⟨#[]⟩,.string ⟨#[]⟩]) (by simp [results,Tryz.results40,go_sem,y90,y91,y92]) rfl ⟨rfl,hb9⟩
theorem fix_agg (n:Bool) (s d:ByteArray) (w:World) (hs:s.size≤268435456) (hd:d.size≤268435456) :
  Calls Tryz.prog 40 #[.agg #[.bool n,.string s,.string d]] w fun e w'=>e = .returned (.agg #[.bool (rn (rq n s d)),.string (rs (rq n s d)),.string (rd (rq n s d))])∧Below w.heap.size w w':=fix_any n s d w hs hd
end Go.Proofs.Ins
