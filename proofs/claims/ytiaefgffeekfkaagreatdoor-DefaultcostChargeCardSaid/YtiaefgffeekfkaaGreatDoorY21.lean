/- The walks of rational.negate, Subtract and insolvencyref1.Subtract, Positive. -/
import Derived.Test.YtiaefgffeekfkaaGreatDoorY13
set_option linter.unusedSimpArgs false
set_option linter.unusedVariables false
set_option maxHeartbeats 8000000
namespace Go.Proofs.Ins
open Go.RowKit
structure AddC (p1:Bool) (p2 p3:ByteArray) (q1:Bool) (q2 q3:ByteArray) (P1 P2 X Y D A:ByteArray) (x y:Nat) (r1:Bool) (r2 r3:ByteArray):Prop where
 dp : ∀ w,Calls Tryz.prog 71 #[.agg #[.bool p1,.string p2,.string p3]] w fun e w'=>e = .returned (.string P1)∧Below w.heap.size w w'
 dq : ∀ w,Calls Tryz.prog 71 #[.agg #[.bool q1,.string q2,.string q3]] w fun e w'=>e = .returned (.string P2)∧Below w.heap.size w w'
 mx:p3≠q3→∀ w,Calls Tryz.prog 70 #[.string p2,.string P2] w fun e w'=>e = .returned (.string X)∧Below w.heap.size w w'
 my:p3≠q3→∀ w,Calls Tryz.prog 70 #[.string q2,.string P1] w fun e w'=>e = .returned (.string Y)∧Below w.heap.size w w'
 md:p3≠q3→∀ w,Calls Tryz.prog 70 #[.string P1,.string P2] w fun e w'=>e = .returned (.string D)∧Below w.heap.size w w'
 ex:p3=q3→X=p2∧Y=q2∧D=P1
 ad : ∀ w,Calls Tryz.prog 179 #[.string X,.string Y] w fun e w'=>e = .returned (.string A)∧Below w.heap.size w w'
 sb : ∀ w,Calls Tryz.prog 180 #[.string X,.string Y] w fun e w'=>e = .returned (subV x y)∧Below w.heap.size w w'
 sc : ∀ w,Calls Tryz.prog 180 #[.string Y,.string X] w fun e w'=>e = .returned (subV y x)∧Below w.heap.size w w'
 same:p1=q1→∀ w,Calls Tryz.prog 178 #[.bool p1,.string A,.string D] w fun e w'=>e = .returned (.agg #[.bool r1,.string r2,.string r3])∧Below w.heap.size w w'
 more:p1≠q1→y≤x→∀ w,Calls Tryz.prog 178 #[.bool p1,.string (bn (x - y)),.string D] w fun e w'=>e = .returned (.agg #[.bool r1,.string r2,.string r3])∧Below w.heap.size w w'
 less:p1≠q1→x<y→∀ w,Calls Tryz.prog 178 #[.bool q1,.string (bn (y - x)),.string D] w fun e w'=>e = .returned (.agg #[.bool r1,.string r2,.string r3])∧Below w.heap.size w w'
def adX (p q:Rat):Nat:=if rd p=rd q then nm p else nm p*q.den
def adY (p q:Rat):Nat:=if rd p=rd q then nm q else nm q*p.den
def adD (p q:Rat):Nat:=if rd p=rd q then p.den else p.den*q.den
theorem den_of_rd {p q:Rat} (h:rd p=rd q):p.den=q.den:=by rw [← dn_rd p,← dn_rd q,h]
theorem ad_sum (p q:Rat):p+q=mkRat (sgn (rn p) (adX p q)+sgn (rn q) (adY p q)) (adD p q):=by
 unfold adX adY adD
 by_cases h:rd p=rd q
 ·rw [if_pos h,if_pos h,if_pos h];exact fr_add_same (den_of_rd h)
 ·rw [if_neg h,if_neg h,if_neg h];exact fr_add p q
theorem addC_of (p q:Rat) (k l:Nat) (hp:Sm k p) (hq:Sm l q) (hkl:k+l+1≤1073741824) :
  AddC (rn p) (rs p) (rd p) (rn q) (rs q) (rd q) (bn p.den) (bn q.den) (bn (adX p q)) (bn (adY p q)) (bn (adD p q)) (bn (adX p q+adY p q)) (adX p q) (adY p q) (rn (p+q)) (rs (p+q)) (rd (p+q)):=by
 have one : ∀ a b:Nat,(256:Nat) ^ a≤256 ^ (a+b):=fun a b=>Nat.pow_le_pow_right (by omega) (by omega)
 have kx:adX p q<256 ^ (k+l):=by
  unfold adX;split
  ·exact Nat.lt_of_lt_of_le hp.1 (one k l)
  ·exact pow_mul_lt hp.1 hq.2
 have ky:adY p q<256 ^ (k+l):=by
  unfold adY;split
  ·rw [Nat.add_comm];exact Nat.lt_of_lt_of_le hq.1 (one l k)
  ·rw [Nat.add_comm];exact pow_mul_lt hq.1 hp.2
 have kd:adD p q<256 ^ (k+l):=by
  unfold adD;split
  ·exact Nat.lt_of_lt_of_le hp.2 (one k l)
  ·exact pow_mul_lt hp.2 hq.2
 have d0:0<adD p q:=by
  unfold adD;split
  ·exact p.den_pos
  ·exact Nat.mul_pos p.den_pos q.den_pos
 have e1:(256:Nat) ^ (k+l+1)=256*256 ^ (k+l):=by rw [Nat.pow_succ,Nat.mul_comm]
 have nx:=bn_small kx (by omega)
 have ny:=bn_small ky (by omega)
 refine ⟨fun w=>den_rat p w,fun w=>den_rat q w,fun h w=>?_,fun h w=>?_,fun h w=>?_,fun h=>?_,fun w=>?_,fun w=>?_,fun w=>?_,fun he w=>?_,fun he hl w=>?_,fun he hl w=>?_⟩
 ·have:=mul_call (nm p) q.den k l w hp.1 hq.2 (by omega) (by omega)
  unfold adX;rw [if_neg h];exact this
 ·have:=mul_call (nm q) p.den l k w hq.1 hp.2 (by omega) (by omega)
  unfold adY;rw [if_neg h];exact this
 ·have:=mul_call p.den q.den k l w hp.2 hq.2 (by omega) (by omega)
  unfold adD;rw [if_neg h];exact this
 ·unfold adX adY adD;rw [if_pos h,if_pos h,if_pos h];exact ⟨rfl,rfl,rfl⟩
 ·have:=add_any (bn (adX p q)) (bn (adY p q)) w nx ny
  rw [nv_bn,nv_bn] at this;exact this
 ·have:=subtractS_any (bn (adX p q)) (bn (adY p q)) w nx ny
  rw [nv_bn,nv_bn] at this;exact this
 ·have:=subtractS_any (bn (adY p q)) (bn (adX p q)) w ny nx
  rw [nv_bn,nv_bn] at this;exact this
 ·have:=red_call (rn p) (adX p q+adY p q) (adD p q) (k+l+1) (k+l) w (by omega) kd (by omega) (by omega) d0
  rw [show fr (rn p) (adX p q+adY p q) (adD p q)=p+q by rw [ad_sum,← he,sgn_add_same];rfl] at this;exact this
 ·have:=red_call (rn p) (adX p q - adY p q) (adD p q) (k+l+1) (k+l) w (by omega) kd (by omega) (by omega) d0
  rw [show fr (rn p) (adX p q - adY p q) (adD p q)=p+q by rw [ad_sum,sgn_add_diff he hl];rfl] at this;exact this
 ·have:=red_call (rn q) (adY p q - adX p q) (adD p q) (k+l+1) (k+l) w (by omega) kd (by omega) (by omega) d0
  rw [show fr (rn q) (adY p q - adX p q) (adD p q)=p+q by rw [ad_sum,Int.add_comm,sgn_add_diff (Ne.symm he) (by omega)];rfl] at this;exact this
set_option maxRecDepth 100000 in
theorem plusR_any (p q:Rat) (k l:Nat) (w:World) (hp:Sm k p) (hq:Sm l q) (hkl:k+l+1≤1073741824) :
  Calls Tryz.prog 131 #[.agg #[.bool (rn p),.string (rs p),.string (rd p)],.agg #[.bool (rn q),.string (rs q),.string (rd q)]] w fun e w'=>e = .returned (.agg #[.bool (rn (p+q)),.string (rs (p+q)),.string (rd (p+q))])∧Below w.heap.size w w':=by
 have HCC:=addC_of p q k l hp hq hkl
 clear hp hq hkl
 generalize bn (adX p q+adY p q)=A at *
 generalize bn (adX p q)=X at *
 generalize bn (adY p q)=Y at *
 generalize bn (adD p q)=D at *
 generalize adX p q=x at *
 generalize adY p q=y at *
 generalize bn p.den=P1 at *
 generalize bn q.den=P2 at *
 generalize rn (p+q)=r1 at *
 generalize rs (p+q)=r2 at *
 generalize rd (p+q)=r3 at *
 generalize rn p=p1 at *
 generalize rs p=p2 at *
 generalize rd p=p3 at *
 generalize rn q=q1 at *
 generalize rs q=q2 at *
 generalize rd q=q3 at *
 have HD:=Lib.hid HCC
 clear HCC
 go_enter Tryz.func131,Tryz.ntmps131
 go_wp2_with fail
 refine wp_forget (fun W=>Blk W w.heap.size #[.bool p1,.string p2,.string p3]∧Blk W (w.heap.size+1) #[.bool q1,.string q2,.string q3]∧Blk W (w.heap.size+1+1) #[.bool false,.string ⟨#[]⟩,.string ⟨#[]⟩]∧Below w.heap.size w W) (three_boxes w _ _ _ _ _ _) ?_
 rintro W ⟨H1,H2,H3,HB⟩
 obtain ⟨k0,k1,k2⟩:=H1.later3
 obtain ⟨k3,k4,k5⟩:=H2.later3
 refine wp_region_qb (by kernel_rfl) (by kernel_rfl) ?_
 repeat (first|go_big_quiet_skip|(refine wpQuiet_step (fun K hK=>?_);go_simp;(try simp (disch:=omega) only [ar9]);(first|(refine hK _ ?_;clear hK K)|(apply Exists.intro;refine ⟨fun _=>?_,hK _ ?_⟩;(fail);clear hK K))))
 clear k0 k1 k2 k3 k4 k5
 refine wpQuiet_nil ?_
 intro W1 hb9
 have J1:=Lib.hid (H1.on hb9)
 have J2:=Lib.hid (H2.on hb9)
 have J3:=Lib.hid (H3.on hb9)
 have HB:=Lib.hid (chain HB hb9 (Nat.le_refl _))
 clear hb9
 obtain ⟨a0,a1,a2,-,-,-⟩:=J1.out.get3
 obtain ⟨b0,b1,b2,-,-,-⟩:=J2.out.get3
 by_cases h3:p3=q3
 ·subst h3
  obtain ⟨hX,hY,hD⟩:=HD.out.ex rfl
  subst hX hY hD
  go_wp2_with fail
  refine (HD.out.dp _).mono ?_;rintro e w3 ⟨rfl,hb9⟩
  clear a0 a1 a2 b0 b1 b2
  have J1:=Lib.hid (J1.out.on hb9)
  have J2:=Lib.hid (J2.out.on hb9)
  have J3:=Lib.hid (J3.out.on hb9)
  have HB:=Lib.hid (chain HB.out hb9 (Nat.le_refl _))
  clear hb9
  obtain ⟨a0,a1,a2,-,-,-⟩:=J1.out.get3
  obtain ⟨b0,b1,b2,-,-,-⟩:=J2.out.get3
  by_cases hs:p1=q1
  ·subst hs
   have HS:=Lib.hid (HD.out.same rfl)
   go_wp2_with fail
   clear a0 a1 a2 b0 b1 b2
   obtain ⟨k0,k1,k2⟩:=J1.out.later3
   obtain ⟨k3,k4,k5⟩:=J2.out.later3
   refine wp_region_qbt 7 (by kernel_rfl) (by kernel_rfl) ?_
   simp only [List.take_succ_cons,List.take_zero,List.drop_succ_cons,List.drop_zero]
   repeat (first|go_big_quiet_skip|(refine wpQuiet_step (fun K hK=>?_);go_simp;(try simp (disch:=omega) only [ar9]);(first|(refine hK _ ?_;clear hK K)|(apply Exists.intro;refine ⟨fun _=>?_,hK _ ?_⟩;(first|with_reducible exact Calls.later (HD.out.ad _)|with_reducible exact Calls.later (HS.out _));clear hK K))))
   clear k0 k1 k2 k3 k4 k5
   refine wpQuiet_nil ?_
   intro W7 hb9
   have J1:=Lib.hid (J1.out.on hb9)
   have J2:=Lib.hid (J2.out.on hb9)
   have J3:=Lib.hid (J3.out.on hb9)
   have HB:=Lib.hid (chain HB.out hb9 (Nat.le_refl _))
   clear hb9
   obtain ⟨c0,c1,c2,c3,c4,c5⟩:=J3.out.get3
   have H2:=J3
   go_wp2
   refine bodyPost_forget (fun W=>Blk W (w.heap.size+1+1) #[.bool r1,.string r2,.string r3]∧Below w.heap.size w W) ⟨by exact Blk.set3 H2.out _ _ _,below_set3 HB.out (by omega) _ _ _⟩ ?_
   rintro WR ⟨hr9,hb9⟩
   obtain ⟨y90,y91,y92,-,-,-⟩:=hr9.get3
   exact bodyPost_ret (v:=.agg #[.bool r1,.string r2,.string r3]) (by simp [results,Tryz.results131,go_sem,y90,y91,y92]) rfl ⟨rfl,hb9⟩
  ·have hs1:(p1 == q1)=false:=by simp [hs]
   by_cases hl:y≤x
   ·have HS:=Lib.hid (HD.out.more hs hl)
    have hsv:=subV_yes hl
    go_wp2_with fail
    refine (HD.out.sb _).mono ?_;rintro e w7 ⟨he7,hb9⟩
    rw [hsv] at he7;subst he7
    clear a0 a1 a2 b0 b1 b2
    have J1:=Lib.hid (J1.out.on hb9)
    have J2:=Lib.hid (J2.out.on hb9)
    have J3:=Lib.hid (J3.out.on hb9)
    have HB:=Lib.hid (chain HB.out hb9 (Nat.le_refl _))
    clear hb9
    obtain ⟨a0,a1,a2,-,-,-⟩:=J1.out.get3
    obtain ⟨b0,b1,b2,-,-,-⟩:=J2.out.get3
    go_wp2_with fail
    refine (HS.out _).mono ?_;rintro e w8 ⟨rfl,hb9⟩
    clear a0 a1 a2 b0 b1 b2
    have J1:=Lib.hid (J1.out.on hb9)
    have J2:=Lib.hid (J2.out.on hb9)
    have J3:=Lib.hid (J3.out.on hb9)
    have HB:=Lib.hid (chain HB.out hb9 (Nat.le_refl _))
    clear hb9
    obtain ⟨c0,c1,c2,c3,c4,c5⟩:=J3.out.get3
    have H2:=J3
    go_wp2
    refine bodyPost_forget (fun W=>Blk W (w.heap.size+1+1) #[.bool r1,.string r2,.string r3]∧Below w.heap.size w W) ⟨by exact Blk.set3 H2.out _ _ _,below_set3 HB.out (by omega) _ _ _⟩ ?_
    rintro WR ⟨hr9,hb9⟩
    obtain ⟨y90,y91,y92,-,-,-⟩:=hr9.get3
    exact bodyPost_ret (v:=.agg #[.bool r1,.string r2,.string r3]) (by simp [results,Tryz.results131,go_sem,y90,y91,y92]) rfl ⟨rfl,hb9⟩
   ·have HS:=Lib.hid (HD.out.less hs (by omega))
    have hsv:=subV_no (show x<y by omega)
    have hsw:=subV_yes (show x≤y by omega)
    go_wp2_with fail
    refine (HD.out.sb _).mono ?_;rintro e w7 ⟨he7,hb9⟩
    rw [hsv] at he7;subst he7
    clear a0 a1 a2 b0 b1 b2
    have J1:=Lib.hid (J1.out.on hb9)
    have J2:=Lib.hid (J2.out.on hb9)
    have J3:=Lib.hid (J3.out.on hb9)
    have HB:=Lib.hid (chain HB.out hb9 (Nat.le_refl _))
    clear hb9
    go_wp2_with fail
    refine (HD.out.sc _).mono ?_;rintro e w8 ⟨he8,hb9⟩
    rw [hsw] at he8;subst he8
    have J1:=Lib.hid (J1.out.on hb9)
    have J2:=Lib.hid (J2.out.on hb9)
    have J3:=Lib.hid (J3.out.on hb9)
    have HB:=Lib.hid (chain HB.out hb9 (Nat.le_refl _))
    clear hb9
    obtain ⟨a0,a1,a2,-,-,-⟩:=J1.out.get3
    obtain ⟨b0,b1,b2,-,-,-⟩:=J2.out.get3
    go_wp2_with fail
    refine (HS.out _).mono ?_;rintro e w9 ⟨rfl,hb9⟩
    clear a0 a1 a2 b0 b1 b2
    have J1:=Lib.hid (J1.out.on hb9)
    have J2:=Lib.hid (J2.out.on hb9)
    have J3:=Lib.hid (J3.out.on hb9)
    have HB:=Lib.hid (chain HB.out hb9 (Nat.le_refl _))
    clear hb9
    obtain ⟨c0,c1,c2,c3,c4,c5⟩:=J3.out.get3
    have H2:=J3
    go_wp2
    refine bodyPost_forget (fun W=>Blk W (w.heap.size+1+1) #[.bool r1,.string r2,.string r3]∧Below w.heap.size w W) ⟨by exact Blk.set3 H2.out _ _ _,below_set3 HB.out (by omega) _ _ _⟩ ?_
    rintro WR ⟨hr9,hb9⟩
    obtain ⟨y90,y91,y92,-,-,-⟩:=hr9.get3
    exact bodyPost_ret (v:=.agg #[.bool r1,.string r2,.string r3]) (by simp [results,Tryz.results131,go_sem,y90,y91,y92]) rfl ⟨rfl,hb9⟩
 ·have hne:(p3.toList == q3.toList)=false:=str_ne h3
  have MX:=Lib.hid (HD.out.mx h3)
  have MY:=Lib.hid (HD.out.my h3)
  have MD:=Lib.hid (HD.out.md h3)
  go_wp2_with fail
  clear a0 a1 a2 b0 b1 b2
  obtain ⟨k0,k1,k2⟩:=J1.out.later3
  obtain ⟨k3,k4,k5⟩:=J2.out.later3
  refine wp_region_qb (by kernel_rfl) (by kernel_rfl) ?_
  repeat (first|go_big_quiet_skip|(refine wpQuiet_step (fun K hK=>?_);go_simp;(try simp (disch:=omega) only [ar9]);(first|(refine hK _ ?_;clear hK K)|(apply Exists.intro;refine ⟨fun _=>?_,hK _ ?_⟩;(first|with_reducible exact Calls.later (HD.out.dp _)|with_reducible exact Calls.later (HD.out.dq _)|with_reducible exact Calls.later (MX.out _)|with_reducible exact Calls.later (MY.out _));clear hK K))))
  clear k0 k1 k2 k3 k4 k5
  refine wpQuiet_nil ?_
  intro W2 hb9
  have J1:=Lib.hid (J1.out.on hb9)
  have J2:=Lib.hid (J2.out.on hb9)
  have J3:=Lib.hid (J3.out.on hb9)
  have HB:=Lib.hid (chain HB.out hb9 (Nat.le_refl _))
  clear hb9
  go_wp2_with fail
  obtain ⟨k0,k1,k2⟩:=J1.out.later3
  obtain ⟨k3,k4,k5⟩:=J2.out.later3
  refine wp_region_qb (by kernel_rfl) (by kernel_rfl) ?_
  repeat (first|go_big_quiet_skip|(refine wpQuiet_step (fun K hK=>?_);go_simp;(try simp (disch:=omega) only [ar9]);(first|(refine hK _ ?_;clear hK K)|(apply Exists.intro;refine ⟨fun _=>?_,hK _ ?_⟩;(first|with_reducible exact Calls.later (HD.out.dp _)|with_reducible exact Calls.later (HD.out.dq _)|with_reducible exact Calls.later (MD.out _));clear hK K))))
  clear k0 k1 k2 k3 k4 k5
  refine wpQuiet_nil ?_
  intro W3 hb9
  have J1:=Lib.hid (J1.out.on hb9)
  have J2:=Lib.hid (J2.out.on hb9)
  have J3:=Lib.hid (J3.out.on hb9)
  have HB:=Lib.hid (chain HB.out hb9 (Nat.le_refl _))
  clear hb9
  obtain ⟨a0,a1,a2,-,-,-⟩:=J1.out.get3
  obtain ⟨b0,b1,b2,-,-,-⟩:=J2.out.get3
  by_cases hs:p1=q1
  ·subst hs
   have HS:=Lib.hid (HD.out.same rfl)
   go_wp2_with fail
   clear a0 a1 a2 b0 b1 b2
   obtain ⟨k0,k1,k2⟩:=J1.out.later3
   obtain ⟨k3,k4,k5⟩:=J2.out.later3
   refine wp_region_qbt 7 (by kernel_rfl) (by kernel_rfl) ?_
   simp only [List.take_succ_cons,List.take_zero,List.drop_succ_cons,List.drop_zero]
   repeat (first|go_big_quiet_skip|(refine wpQuiet_step (fun K hK=>?_);go_simp;(try simp (disch:=omega) only [ar9]);(first|(refine hK _ ?_;clear hK K)|(apply Exists.intro;refine ⟨fun _=>?_,hK _ ?_⟩;(first|with_reducible exact Calls.later (HD.out.ad _)|with_reducible exact Calls.later (HS.out _));clear hK K))))
   clear k0 k1 k2 k3 k4 k5
   refine wpQuiet_nil ?_
   intro W7 hb9
   have J1:=Lib.hid (J1.out.on hb9)
   have J2:=Lib.hid (J2.out.on hb9)
   have J3:=Lib.hid (J3.out.on hb9)
   have HB:=Lib.hid (chain HB.out hb9 (Nat.le_refl _))
   clear hb9
   obtain ⟨c0,c1,c2,c3,c4,c5⟩:=J3.out.get3
   have H2:=J3
   go_wp2
   refine bodyPost_forget (fun W=>Blk W (w.heap.size+1+1) #[.bool r1,.string r2,.string r3]∧Below w.heap.size w W) ⟨by exact Blk.set3 H2.out _ _ _,below_set3 HB.out (by omega) _ _ _⟩ ?_
   rintro WR ⟨hr9,hb9⟩
   obtain ⟨y90,y91,y92,-,-,-⟩:=hr9.get3
   exact bodyPost_ret (v:=.agg #[.bool r1,.string r2,.string r3]) (by simp [results,Tryz.results131,go_sem,y90,y91,y92]) rfl ⟨rfl,hb9⟩
  ·have hs1:(p1 == q1)=false:=by simp [hs]
   by_cases hl:y≤x
   ·have HS:=Lib.hid (HD.out.more hs hl)
    have hsv:=subV_yes hl
    go_wp2_with fail
    refine (HD.out.sb _).mono ?_;rintro e w7 ⟨he7,hb9⟩
    rw [hsv] at he7;subst he7
    clear a0 a1 a2 b0 b1 b2
    have J1:=Lib.hid (J1.out.on hb9)
    have J2:=Lib.hid (J2.out.on hb9)
    have J3:=Lib.hid (J3.out.on hb9)
    have HB:=Lib.hid (chain HB.out hb9 (Nat.le_refl _))
    clear hb9
    obtain ⟨a0,a1,a2,-,-,-⟩:=J1.out.get3
    obtain ⟨b0,b1,b2,-,-,-⟩:=J2.out.get3
    go_wp2_with fail
    refine (HS.out _).mono ?_;rintro e w8 ⟨rfl,hb9⟩
    clear a0 a1 a2 b0 b1 b2
    have J1:=Lib.hid (J1.out.on hb9)
    have J2:=Lib.hid (J2.out.on hb9)
    have J3:=Lib.hid (J3.out.on hb9)
    have HB:=Lib.hid (chain HB.out hb9 (Nat.le_refl _))
    clear hb9
    obtain ⟨c0,c1,c2,c3,c4,c5⟩:=J3.out.get3
    have H2:=J3
    go_wp2
    refine bodyPost_forget (fun W=>Blk W (w.heap.size+1+1) #[.bool r1,.string r2,.string r3]∧Below w.heap.size w W) ⟨by exact Blk.set3 H2.out _ _ _,below_set3 HB.out (by omega) _ _ _⟩ ?_
    rintro WR ⟨hr9,hb9⟩
    obtain ⟨y90,y91,y92,-,-,-⟩:=hr9.get3
    exact bodyPost_ret (v:=.agg #[.bool r1,.string r2,.string r3]) (by simp [results,Tryz.results131,go_sem,y90,y91,y92]) rfl ⟨rfl,hb9⟩
   ·have HS:=Lib.hid (HD.out.less hs (by omega))
    have hsv:=subV_no (show x<y by omega)
    have hsw:=subV_yes (show x≤y by omega)
    go_wp2_with fail
    refine (HD.out.sb _).mono ?_;rintro e w7 ⟨he7,hb9⟩
    rw [hsv] at he7;subst he7
    clear a0 a1 a2 b0 b1 b2
    have J1:=Lib.hid (J1.out.on hb9)
    have J2:=Lib.hid (J2.out.on hb9)
    have J3:=Lib.hid (J3.out.on hb9)
    have HB:=Lib.hid (chain HB.out hb9 (Nat.le_refl _))
    clear hb9
    go_wp2_with fail
    refine (HD.out.sc _).mono ?_;rintro e w8 ⟨he8,hb9⟩
    rw [hsw] at he8;subst he8
    have J1:=Lib.hid (J1.out.on hb9)
    have J2:=Lib.hid (J2.out.on hb9)
    have J3:=Lib.hid (J3.out.on hb9)
    have HB:=Lib.hid (chain HB.out hb9 (Nat.le_refl _))
    clear hb9
    obtain ⟨a0,a1,a2,-,-,-⟩:=J1.out.get3
    obtain ⟨b0,b1,b2,-,-,-⟩:=J2.out.get3
    go_wp2_with fail
    refine (HS.out _).mono ?_;rintro e w9 ⟨rfl,hb9⟩
    clear a0 a1 a2 b0 b1 b2
    have J1:=Lib.hid (J1.out.on hb9)
    have J2:=Lib.hid (J2.out.on hb9)
    have J3:=Lib.hid (J3.out.on hb9)
    have HB:=Lib.hid (chain HB.out hb9 (Nat.le_refl _))
    clear hb9
    obtain ⟨c0,c1,c2,c3,c4,c5⟩:=J3.out.get3
    have H2:=J3
    go_wp2
    refine bodyPost_forget (fun W=>Blk W (w.heap.size+1+1) #[.bool r1,.string r2,.string r3]∧Below w.heap.size w W) ⟨by exact Blk.set3 H2.out _ _ _,below_set3 HB.out (by omega) _ _ _⟩ ?_
    rintro WR ⟨hr9,hb9⟩
    obtain ⟨y90,y91,y92,-,-,-⟩:=hr9.get3
    exact bodyPost_ret (v:=.agg #[.bool r1,.string r2,.string r3]) (by simp [results,Tryz.results131,go_sem,y90,y91,y92]) rfl ⟨rfl,hb9⟩
set_option maxRecDepth 100000 in
theorem add_rat (n1:Bool) (s1 d1:ByteArray) (n2:Bool) (s2 d2:ByteArray) (w:World) (h1:s1.size+d1.size≤268435456) (h2:s2.size+d2.size≤268435456) :
  Calls Tryz.prog 93 #[.agg #[.bool n1,.string s1,.string d1],.agg #[.bool n2,.string s2,.string d2]] w fun e w'=>e = .returned (rv (rq n1 s1 d1+rq n2 s2 d2))∧Below w.heap.size w w':=by
 have HC1:=Lib.hid (fun w=>clean_agg n1 s1 d1 w (by omega) (by omega))
 have HC2:=Lib.hid (fun w=>clean_agg n2 s2 d2 w (by omega) (by omega))
 have HCC:=Lib.hid (fun w=>plusR_any (rq n1 s1 d1) (rq n2 s2 d2) _ _ w (sm_raw n1 s1 d1) (sm_raw n2 s2 d2) (by omega))
 generalize rq n1 s1 d1=p at *
 generalize rq n2 s2 d2=q at *
 unfold rv
 generalize rn (p+q)=r1 at *
 generalize rs (p+q)=r2 at *
 generalize rd (p+q)=r3 at *
 generalize rn p=p1 at *
 generalize rs p=p2 at *
 generalize rd p=p3 at *
 generalize rn q=q1 at *
 generalize rs q=q2 at *
 generalize rd q=q3 at *
 go_enter Tryz.func93,Tryz.ntmps93
 go_wp2_with fail
 refine wp_forget (fun W=>Blk W w.heap.size #[.bool n1,.string s1,.string d1]∧Blk W (w.heap.size+1) #[.bool n2,.string s2,.string d2]∧Blk W (w.heap.size+1+1) #[.bool false,.string ⟨#[]⟩,.string ⟨#[]⟩]∧Below w.heap.size w W) (three_boxes w _ _ _ _ _ _) ?_
 rintro W ⟨H1,H2,H3,HB⟩
 obtain ⟨k0,k1,k2⟩:=H1.later3
 obtain ⟨k3,k4,k5⟩:=H2.later3
 refine wp_region_qbt 5 (by kernel_rfl) (by kernel_rfl) ?_
 simp only [List.take_succ_cons,List.take_zero,List.drop_succ_cons,List.drop_zero]
 repeat (first|go_big_quiet_skip|(refine wpQuiet_step (fun K hK=>?_);go_simp;(try simp (disch:=omega) only [ar9]);(first|(refine hK _ ?_;clear hK K)|(apply Exists.intro;refine ⟨fun _=>?_,hK _ ?_⟩;(first|with_reducible exact Calls.later (HC1.out _)|with_reducible exact Calls.later (HC2.out _)|with_reducible exact Calls.later (HCC.out _));clear hK K))))
 clear k0 k1 k2 k3 k4 k5
 refine wpQuiet_nil ?_
 intro W5 hb5
 have H2:=Lib.hid (H3.on hb5)
 have HB:=Lib.hid (chain HB hb5 (Nat.le_refl _))
 obtain ⟨a0,a1,a2,a3,a4,a5⟩:=H2.out.get3
 clear hb5 H3 H1
 go_wp2
 refine bodyPost_forget (fun W=>Blk W (w.heap.size+1+1) #[.bool r1,.string r2,.string r3]∧Below w.heap.size w W) ⟨by exact Blk.set3 H2.out _ _ _,below_set3 HB.out (by omega) _ _ _⟩ ?_
 rintro WR ⟨hr9,hb9⟩
 obtain ⟨y90,y91,y92,-,-,-⟩:=hr9.get3
 exact bodyPost_ret (v:=.agg #[.bool r1,.string r2,.string r3]) (by simp [results,Tryz.results93,go_sem,y90,y91,y92]) rfl ⟨rfl,hb9⟩
set_option maxRecDepth 100000 in
theorem negate_any (q:Rat) (w:World) :
  Calls Tryz.prog 132 #[.agg #[.bool (rn q),.string (rs q),.string (rd q)]] w fun e w'=>e = .returned (.agg #[.bool (rn (-q)),.string (rs (-q)),.string (rd (-q))])∧Below w.heap.size w w':=by
 by_cases h:q=0
 ·subst h
  rw [Rat.neg_zero,rn_zero,rs_zero,rd_zero]
  go_enter Tryz.func132,Tryz.ntmps132
  go_wp2
  refine bodyPost_forget (fun W=>Blk W (w.heap.size+1) #[.bool false,.string ⟨#[]⟩,.string ⟨#[]⟩]∧Below w.heap.size w W) ⟨by exact (two_boxes _ _ _ _ _).2.1,by exact (two_boxes w _ _ _ _).2.2⟩ ?_
  rintro WR ⟨hr9,hb9⟩
  obtain ⟨y90,y91,y92,-,-,-⟩:=hr9.get3
  exact bodyPost_ret (v:=.agg #[.bool false,.string ⟨#[]⟩,.string ⟨#[]⟩]) (by simp [results,Tryz.results132,go_sem,y90,y91,y92]) rfl ⟨rfl,hb9⟩
 ·rw [rn_neg (fun e=>h (nm_zero.mp e)),rs_neg,rd_neg]
  obtain ⟨h1,h2⟩:=bn_ne (x:=nm q) (Nat.pos_of_ne_zero fun e=>h (nm_zero.mp e))
  have e:rs q=bn (nm q):=rfl
  rw [e]
  generalize bn (nm q)=s at *
  generalize rd q=d at *
  generalize rn q=n at *
  clear h e
  cases n
  ·go_enter Tryz.func132,Tryz.ntmps132
   go_wp2
   refine bodyPost_forget (fun W=>Blk W (w.heap.size+1) #[.bool true,.string s,.string d]∧Below w.heap.size w W) ⟨by exact (two_boxes _ _ _ _ _).2.1,by exact (two_boxes w _ _ _ _).2.2⟩ ?_
   rintro WR ⟨hr9,hb9⟩
   obtain ⟨y90,y91,y92,-,-,-⟩:=hr9.get3
   exact bodyPost_ret (v:=.agg #[.bool true,.string s,.string d]) (by simp [results,Tryz.results132,go_sem,y90,y91,y92]) rfl ⟨rfl,hb9⟩
  ·go_enter Tryz.func132,Tryz.ntmps132
   go_wp2
   refine bodyPost_forget (fun W=>Blk W (w.heap.size+1) #[.bool false,.string s,.string d]∧Below w.heap.size w W) ⟨by exact (two_boxes _ _ _ _ _).2.1,by exact (two_boxes w _ _ _ _).2.2⟩ ?_
   rintro WR ⟨hr9,hb9⟩
   obtain ⟨y90,y91,y92,-,-,-⟩:=hr9.get3
   exact bodyPost_ret (v:=.agg #[.bool false,.string s,.string d]) (by simp [results,Tryz.results132,go_sem,y90,y91,y92]) rfl ⟨rfl,hb9⟩
set_option maxRecDepth 100000 in
theorem subtract_rat (n1:Bool) (s1 d1:ByteArray) (n2:Bool) (s2 d2:ByteArray) (w:World) (h1:s1.size+d1.size≤268435456) (h2:s2.size+d2.size≤268435456) :
  Calls Tryz.prog 78 #[.agg #[.bool n1,.string s1,.string d1],.agg #[.bool n2,.string s2,.string d2]] w fun e w'=>e = .returned (rv (rq n1 s1 d1 - rq n2 s2 d2))∧Below w.heap.size w w':=by
 have HC1:=Lib.hid (fun w=>clean_agg n1 s1 d1 w (by omega) (by omega))
 have HC2:=Lib.hid (fun w=>clean_agg n2 s2 d2 w (by omega) (by omega))
 have HN:=Lib.hid (fun w=>negate_any (rq n2 s2 d2) w)
 have HCC:=Lib.hid (fun w=>plusR_any (rq n1 s1 d1) (-rq n2 s2 d2) _ _ w (sm_raw n1 s1 d1) (sm_raw n2 s2 d2).neg (by omega))
 rw [← Rat.sub_eq_add_neg] at HCC
 generalize rq n1 s1 d1=p at *
 generalize rq n2 s2 d2=q at *
 unfold rv
 generalize rn (p - q)=r1 at *
 generalize rs (p - q)=r2 at *
 generalize rd (p - q)=r3 at *
 generalize rn (-q)=o1 at *
 generalize rs (-q)=o2 at *
 generalize rd (-q)=o3 at *
 generalize rn p=p1 at *
 generalize rs p=p2 at *
 generalize rd p=p3 at *
 generalize rn q=q1 at *
 generalize rs q=q2 at *
 generalize rd q=q3 at *
 go_enter Tryz.func78,Tryz.ntmps78
 go_wp2_with fail
 refine wp_forget (fun W=>Blk W w.heap.size #[.bool n1,.string s1,.string d1]∧Blk W (w.heap.size+1) #[.bool n2,.string s2,.string d2]∧Blk W (w.heap.size+1+1) #[.bool false,.string ⟨#[]⟩,.string ⟨#[]⟩]∧Below w.heap.size w W) (three_boxes w _ _ _ _ _ _) ?_
 rintro W ⟨H1,H2,H3,HB⟩
 obtain ⟨k0,k1,k2⟩:=H1.later3
 obtain ⟨k3,k4,k5⟩:=H2.later3
 refine wp_region_qbt 6 (by kernel_rfl) (by kernel_rfl) ?_
 simp only [List.take_succ_cons,List.take_zero,List.drop_succ_cons,List.drop_zero]
 repeat (first|go_big_quiet_skip|(refine wpQuiet_step (fun K hK=>?_);go_simp;(try simp (disch:=omega) only [ar9]);(first|(refine hK _ ?_;clear hK K)|(apply Exists.intro;refine ⟨fun _=>?_,hK _ ?_⟩;(first|with_reducible exact Calls.later (HC1.out _)|with_reducible exact Calls.later (HC2.out _)|with_reducible exact Calls.later (HN.out _)|with_reducible exact Calls.later (HCC.out _));clear hK K))))
 clear k0 k1 k2 k3 k4 k5
 refine wpQuiet_nil ?_
 intro W5 hb5
 have H2:=Lib.hid (H3.on hb5)
 have HB:=Lib.hid (chain HB hb5 (Nat.le_refl _))
 obtain ⟨a0,a1,a2,a3,a4,a5⟩:=H2.out.get3
 clear hb5 H3 H1
 go_wp2
 refine bodyPost_forget (fun W=>Blk W (w.heap.size+1+1) #[.bool r1,.string r2,.string r3]∧Below w.heap.size w W) ⟨by exact Blk.set3 H2.out _ _ _,below_set3 HB.out (by omega) _ _ _⟩ ?_
 rintro WR ⟨hr9,hb9⟩
 obtain ⟨y90,y91,y92,-,-,-⟩:=hr9.get3
 exact bodyPost_ret (v:=.agg #[.bool r1,.string r2,.string r3]) (by simp [results,Tryz.results78,go_sem,y90,y91,y92]) rfl ⟨rfl,hb9⟩
def posR (q:Rat):Rat:=if rn q=true then 0 else q
theorem maxR_zero (q:Rat):maxR q 0=posR q:=by
 unfold maxR posR cmpR
 rw [Rat.sub_eq_add_neg,Rat.neg_zero,Rat.add_zero]
 by_cases h:rn q=true
 ·rw [if_pos h,sg_neg h,if_neg (by omega)]
 ·have h:rn q=false:=by cases hh:rn q <;> simp_all
  have e:(if rn q=true then (0:Rat) else q)=q:=if_neg (by rw [h];simp)
  rw [e]
  by_cases h0:nm q=0
  ·rw [sg_zero h0,if_pos (by omega)]
  ·rw [sg_pos h h0,if_pos (by omega)]
set_option maxRecDepth 100000 in
theorem rpositive_any (q:Rat) (w:World) :
  Calls Tryz.prog 83 #[.agg #[.bool (rn q),.string (rs q),.string (rd q)]] w fun e w'=>e = .returned (.agg #[.bool (rn (posR q)),.string (rs (posR q)),.string (rd (posR q))])∧Below w.heap.size w w':=by
 unfold posR
 cases hn:rn q
 ·rw [if_neg (by simp),hn]
  generalize rs q=s at *
  generalize rd q=d at *
  clear hn
  go_enter Tryz.func83,Tryz.ntmps83
  go_wp2
  refine bodyPost_forget (fun W=>Blk W (w.heap.size+1) #[.bool false,.string s,.string d]∧Below w.heap.size w W) ⟨by exact (two_boxes _ _ _ _ _).2.1,by exact (two_boxes w _ _ _ _).2.2⟩ ?_
  rintro WR ⟨hr9,hb9⟩
  obtain ⟨y90,y91,y92,-,-,-⟩:=hr9.get3
  exact bodyPost_ret (v:=.agg #[.bool false,.string s,.string d]) (by simp [results,Tryz.results83,go_sem,y90,y91,y92]) rfl ⟨rfl,hb9⟩
 ·rw [if_pos rfl,rn_zero,rs_zero,rd_zero]
  generalize rs q=s at *
  generalize rd q=d at *
  clear hn
  go_enter Tryz.func83,Tryz.ntmps83
  go_wp2
  exact bodyPost_ret (v:=.agg #[.bool false,.string ⟨#[]⟩,.string ⟨#[]⟩]) (by simp [results,Tryz.results83,go_sem]) rfl ⟨rfl,(two_boxes w _ _ _ _).2.2⟩
end Go.Proofs.Ins
