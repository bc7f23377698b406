/- The executor's oracles: fractions and natural numbers by their contracts. Printed by x16gen.py. -/
import Derived.Test.YtiaefgffeekfkaaGreatDoorZ19
import Derived.Test.YtiaefgffeekfkaaGreatDoorZ12
set_option linter.unusedSimpArgs false
set_option linter.unusedVariables false
set_option maxHeartbeats 8000000
namespace Go.Proofs.Ins
open Go.RowKit
structure AddC (p1:Bool) (p2 p3:ByteArray) (q1:Bool) (q2 q3:ByteArray) (P1 P2 X Y D A:ByteArray) (x y:Nat) (r1:Bool) (r2 r3:ByteArray):Prop where
 dp : ∀ w,Calls Tryz.prog 71 #[.agg #[.bool p1,.string p2,.string p3]] w fun e w'=>e = .returned (.string P1)∧Below w.heap.size w w'
 dq : ∀ w,Calls Tryz.prog 71 #[.agg #[.bool q1,.string q2,.string q3]] w fun e w'=>e = .returned (.string P2)∧Below w.heap.size w w'
 mx:p3≠q3→∀ w,Calls Tryz.prog 70 #[.string p2,.string P2] w fun e w'=>e = .returned (.string X)∧Below w.heap.size w w'
 my:p3≠q3→∀ w,Calls Tryz.prog 70 #[.string q2,.string P1] w fun e w'=>e = .returned (.string Y)∧Below w.heap.size w w'
 md:p3≠q3→∀ w,Calls Tryz.prog 70 #[.string P1,.string P2] w fun e w'=>e = .returned (.string D)∧Below w.heap.size w w'
 ex:p3=q3→X=p2∧Y=q2∧D=P1
 ad : ∀ w,Calls Tryz.prog 179 #[.string X,.string Y] w fun e w'=>e = .returned (.string A)∧Below w.heap.size w w'
 sb : ∀ w,Calls Tryz.prog 180 #[.string X,.string Y] w fun e w'=>e = .returned (subV x y)∧Below w.heap.size w w'
 sc : ∀ w,Calls Tryz.prog 180 #[.string Y,.string X] w fun e w'=>e = .returned (subV y x)∧Below w.heap.size w w'
 same:p1=q1→∀ w,Calls Tryz.prog 178 #[.bool p1,.string A,.string D] w fun e w'=>e = .returned (.agg #[.bool r1,.string r2,.string r3])∧Below w.heap.size w w'
 more:p1≠q1→y≤x→∀ w,Calls Tryz.prog 178 #[.bool p1,.string (bn (x - y)),.string D] w fun e w'=>e = .returned (.agg #[.bool r1,.string r2,.string r3])∧Below w.heap.size w w'
 less:p1≠q1→x<y→∀ w,Calls Tryz.prog 178 #[.bool q1,.string (bn (y - x)),.string D] w fun e w'=>e = .returned (.agg #[.bool r1,.string r2,.string r3])∧Below w.heap.size w w'
def adX (p q:Rat):Nat:=if rd p=rd q then nm p else nm p*q.den
def adY (p q:Rat):Nat:=if rd p=rd q then nm q else nm q*p.den
def adD (p q:Rat):Nat:=if rd p=rd q then p.den else p.den*q.den
theorem den_of_rd {p q:Rat} (h:rd p=rd q):p.den=q.den:=by rw [← dn_rd p,← dn_rd q,h]
theorem ad_sum (p q:Rat):p+q=mkRat (sgn (rn p) (adX p q)+sgn (rn q) (adY p q)) (adD p q):=by
 unfold adX adY adD
 by_cases h:rd p=rd q
 ·rw [if_pos h,if_pos h,if_pos h]; exact fr_add_same (den_of_rd h)
 ·rw [if_neg h,if_neg h,if_neg h]; exact fr_add p q
theorem addC_of (p q:Rat) (k l:Nat) (hp:Sm k p) (hq:Sm l q) (hkl:k+l+1≤1073741824) :
  AddC (rn p) (rs p) (rd p) (rn q) (rs q) (rd q) (bn p.den) (bn q.den) (bn (adX p q)) (bn (adY p q)) (bn (adD p q)) (bn (adX p q+adY p q)) (adX p q) (adY p q) (rn (p+q)) (rs (p+q)) (rd (p+q)):=by
 have one : ∀ a b:Nat,(256:Nat) ^ a≤256 ^ (a+b):=fun a b=>Nat.pow_le_pow_right (by omega) (by omega)
 have kx:adX p q<256 ^ (k+l):=by
  unfold adX; split
  ·exact Nat.lt_of_lt_of_le hp.1 (one k l)
  ·exact pow_mul_lt hp.1 hq.2
 have ky:adY p q<256 ^ (k+l):=by
  unfold adY; split
  ·rw [Nat.add_comm]; exact Nat.lt_of_lt_of_le hq.1 (one l k)
  ·rw [Nat.add_comm]; exact pow_mul_lt hq.1 hp.2
 have kd:adD p q<256 ^ (k+l):=by
  unfold adD; split
  ·exact Nat.lt_of_lt_of_le hp.2 (one k l)
  ·exact pow_mul_lt hp.2 hq.2
 have d0:0<adD p q:=by
  unfold adD; split
  ·exact p.den_pos
  ·exact Nat.mul_pos p.den_pos q.den_pos
 have e1:(256:Nat) ^ (k+l+1)=256*256 ^ (k+l):=by rw [Nat.pow_succ,Nat.mul_comm]
 have nx:=bn_small kx (by omega)
 have ny:=bn_small ky (by omega)
 refine ⟨fun w=>den_rat p w,fun w=>den_rat q w,fun h w=>?_,fun h w=>?_,fun h w=>?_,fun h=>?_,fun w=>?_,fun w=>?_,fun w=>?_,fun he w=>?_,fun he hl w=>?_,fun he hl w=>?_⟩
 ·have:=mul_call (nm p) q.den k l w hp.1 hq.2 (by omega) (by omega)
  unfold adX; rw [if_neg h]; exact this
 ·have:=mul_call (nm q) p.den l k w hq.1 hp.2 (by omega) (by omega)
  unfold adY; rw [if_neg h]; exact this
 ·have:=mul_call p.den q.den k l w hp.2 hq.2 (by omega) (by omega)
  unfold adD; rw [if_neg h]; exact this
 ·unfold adX adY adD; rw [if_pos h,if_pos h,if_pos h]; exact ⟨rfl,rfl,rfl⟩
 ·have:=add_any (bn (adX p q)) (bn (adY p q)) w nx ny
  rw [nv_bn,nv_bn] at this; exact this
 ·have:=subtractS_any (bn (adX p q)) (bn (adY p q)) w nx ny
  rw [nv_bn,nv_bn] at this; exact this
 ·have:=subtractS_any (bn (adY p q)) (bn (adX p q)) w ny nx
  rw [nv_bn,nv_bn] at this; exact this
 ·have:=red_call (rn p) (adX p q+adY p q) (adD p q) (k+l+1) (k+l) w (by omega) kd (by omega) (by omega) d0
  rw [show fr (rn p) (adX p q+adY p q) (adD p q)=p+q by rw [ad_sum,← he,sgn_add_same]; rfl] at this; exact this
 ·have:=red_call (rn p) (adX p q - adY p q) (adD p q) (k+l+1) (k+l) w (by omega) kd (by omega) (by omega) d0
  rw [show fr (rn p) (adX p q - adY p q) (adD p q)=p+q by rw [ad_sum,sgn_add_diff he hl]; rfl] at this; exact this
 ·have:=red_call (rn q) (adY p q - adX p q) (adD p q) (k+l+1) (k+l) w (by omega) kd (by omega) (by omega) d0
  rw [show fr (rn q) (adY p q - adX p q) (adD p q)=p+q by rw [ad_sum,Int.add_comm,sgn_add_diff (Ne.symm he) (by omega)]; rfl] at this; exact this
set_option maxRecDepth 100000 in
theorem plusR_any (p q:Rat) (k l:Nat) (w:World) (hp:Sm k p) (hq:Sm l q) (hkl:k+l+1≤1073741824) :
  Calls Tryz.prog 131 #[.agg #[.bool (rn p),.string (rs p),.string (rd p)],.agg #[.bool (rn q),.string (rs q),.string (rd q)]] w fun e w'=>e = .returned (.agg #[.bool (rn (p+q)),.string (rs (p+q)),.string (rd (p+q))])∧Below w.heap.size w w':=by
 have HCC:=addC_of p q k l hp hq hkl
 clear hp hq hkl
 generalize bn (adX p q+adY p q)=A at *
 generalize bn (adX p q)=X at *
 generalize bn (adY p q)=Y at *
 generalize bn (adD p q)=D at *
 generalize adX p q=x at *
 generalize adY p q=y at *
 generalize bn p.den=P1 at *
 generalize bn q.den=P2 at *
 generalize rn (p+q)=r1 at *
 generalize rs (p+q)=r2 at *
 generalize rd (p+q)=r3 at *
 generalize rn p=p1 at *
 generalize rs p=p2 at *
 generalize rd p=p3 at *
 generalize rn q=q1 at *
 generalize rs q=q2 at *
 generalize rd q=q3 at *
 have HD:=Lib.hid HCC
 clear HCC
 go_enter Tryz.func131,Tryz.ntmps131
 go_wp2_with fail
 refine wp_forget (fun W=>Blk W w.heap.size #[.bool p1,.string p2,.string p3]∧Blk W (w.heap.size+1) #[.bool q1,.string q2,.string q3]∧Blk W (w.heap.size+1+1) #[.bool false,.string ⟨#[]⟩,.string ⟨#[]⟩]∧Below w.heap.size w W) (three_boxes w _ _ _ _ _ _) ?_
 rintro W ⟨H1,H2,H3,HB⟩
 obtain ⟨k0,k1,k2⟩:=H1.later3
 obtain ⟨k3,k4,k5⟩:=H2.later3
 refine wp_region_qb (by kernel_rfl) (by kernel_rfl) ?_
 repeat (first | go_big_quiet_skip | (refine wpQuiet_step (fun K hK=>?_); go_simp; (try simp (disch:=omega) only [ar9]); (first | (refine hK _ ?_; clear hK K) | (apply Exists.intro; refine ⟨fun _=>?_,hK _ ?_⟩; (fail); clear hK K))))
 clear k0 k1 k2 k3 k4 k5
 refine wpQuiet_nil ?_
 intro W1 hb9
 have J1:=Lib.hid (H1.on hb9)
 have J2:=Lib.hid (H2.on hb9)
 have J3:=Lib.hid (H3.on hb9)
 have HB:=Lib.hid (chain HB hb9 (Nat.le_refl _))
 clear hb9
 obtain ⟨a0,a1,a2,-,-,-⟩:=J1.out.get3
 obtain ⟨b0,b1,b2,-,-,-⟩:=J2.out.get3
 by_cases h3:p3=q3
 ·subst h3
  obtain ⟨hX,hY,hD⟩:=HD.out.ex rfl
  subst hX hY hD
  go_wp2_with fail
  refine (HD.out.dp _).mono ?_; rintro e w3 ⟨rfl,hb9⟩
  clear a0 a1 a2 b0 b1 b2
  have J1:=Lib.hid (J1.out.on hb9)
  have J2:=Lib.hid (J2.out.on hb9)
  have J3:=Lib.hid (J3.out.on hb9)
  have HB:=Lib.hid (chain HB.out hb9 (Nat.le_refl _))
  clear hb9
  obtain ⟨a0,a1,a2,-,-,-⟩:=J1.out.get3
  obtain ⟨b0,b1,b2,-,-,-⟩:=J2.out.get3
  by_cases hs:p1=q1
  ·subst hs
   have HS:=Lib.hid (HD.out.same rfl)
   go_wp2_with fail
   clear a0 a1 a2 b0 b1 b2
   obtain ⟨k0,k1,k2⟩:=J1.out.later3
   obtain ⟨k3,k4,k5⟩:=J2.out.later3
   refine wp_region_qbt 7 (by kernel_rfl) (by kernel_rfl) ?_
   simp only [List.take_succ_cons,List.take_zero,List.drop_succ_cons,List.drop_zero]
   repeat (first | go_big_quiet_skip | (refine wpQuiet_step (fun K hK=>?_); go_simp; (try simp (disch:=omega) only [ar9]); (first | (refine hK _ ?_; clear hK K) | (apply Exists.intro; refine ⟨fun _=>?_,hK _ ?_⟩; (first | with_reducible exact Calls.later (HD.out.ad _) | with_reducible exact Calls.later (HS.out _)); clear hK K))))
   clear k0 k1 k2 k3 k4 k5
   refine wpQuiet_nil ?_
   intro W7 hb9
   have J1:=Lib.hid (J1.out.on hb9)
   have J2:=Lib.hid (J2.out.on hb9)
   have J3:=Lib.hid (J3.out.on hb9)
   have HB:=Lib.hid (chain HB.out hb9 (Nat.le_refl _))
   clear hb9
   obtain ⟨c0,c1,c2,c3,c4,c5⟩:=J3.out.get3
   have H2:=J3
   go_wp2
   refine bodyPost_forget (fun W=>Blk W (w.heap.size+1+1) #[.bool r1,.string r2,.string r3]∧Below w.heap.size w W) ⟨by exact Blk.set3 H2.out _ _ _,below_set3 HB.out (by omega) _ _ _⟩ ?_
   rintro WR ⟨hr9,hb9⟩
   obtain ⟨y90,y91,y92,-,-,-⟩:=hr9.get3
   exact bodyPost_ret (v:=.agg #[.bool r1,.string r2,.string r3]) (by simp [results,Tryz.results131,go_sem,y90,y91,y92]) rfl ⟨rfl,hb9⟩
  ·have hs1:(p1 == q1)=false:=by simp [hs]
   by_cases hl:y≤x
   ·have HS:=Lib.hid (HD.out.more hs hl)
    have hsv:=subV_yes hl
    go_wp2_with fail
    refine (HD.out.sb _).mono ?_; rintro e w7 ⟨he7,hb9⟩
    rw [hsv] at he7; subst he7
    clear a0 a1 a2 b0 b1 b2
    have J1:=Lib.hid (J1.out.on hb9)
    have J2:=Lib.hid (J2.out.on hb9)
    have J3:=Lib.hid (J3.out.on hb9)
    have HB:=Lib.hid (chain HB.out hb9 (Nat.le_refl _))
    clear hb9
    obtain ⟨a0,a1,a2,-,-,-⟩:=J1.out.get3
    obtain ⟨b0,b1,b2,-,-,-⟩:=J2.out.get3
    go_wp2_with fail
    refine (HS.out _).mono ?_; rintro e w8 ⟨rfl,hb9⟩
    clear a0 a1 a2 b0 b1 b2
    have J1:=Lib.hid (J1.out.on hb9)
    have J2:=Lib.hid (J2.out.on hb9)
    have J3:=Lib.hid (J3.out.on hb9)
    have HB:=Lib.hid (chain HB.out hb9 (Nat.le_refl _))
    clear hb9
    obtain ⟨c0,c1,c2,c3,c4,c5⟩:=J3.out.get3
    have H2:=J3
    go_wp2
    refine bodyPost_forget (fun W=>Blk W (w.heap.size+1+1) #[.bool r1,.string r2,.string r3]∧Below w.heap.size w W) ⟨by exact Blk.set3 H2.out _ _ _,below_set3 HB.out (by omega) _ _ _⟩ ?_
    rintro WR ⟨hr9,hb9⟩
    obtain ⟨y90,y91,y92,-,-,-⟩:=hr9.get3
    exact bodyPost_ret (v:=.agg #[.bool r1,.string r2,.string r3]) (by simp [results,Tryz.results131,go_sem,y90,y91,y92]) rfl ⟨rfl,hb9⟩
   ·have HS:=Lib.hid (HD.out.less hs (by omega))
    have hsv:=subV_no (show x<y by omega)
    have hsw:=subV_yes (show x≤y by omega)
    go_wp2_with fail
    refine (HD.out.sb _).mono ?_; rintro e w7 ⟨he7,hb9⟩
    rw [hsv] at he7; subst he7
    clear a0 a1 a2 b0 b1 b2
    have J1:=Lib.hid (J1.out.on hb9)
    have J2:=Lib.hid (J2.out.on hb9)
    have J3:=Lib.hid (J3.out.on hb9)
    have HB:=Lib.hid (chain HB.out hb9 (Nat.le_refl _))
    clear hb9
    go_wp2_with fail
    refine (HD.out.sc _).mono ?_; rintro e w8 ⟨he8,hb9⟩
    rw [hsw] at he8; subst he8
    have J1:=Lib.hid (J1.out.on hb9)
    have J2:=Lib.hid (J2.out.on hb9)
    have J3:=Lib.hid (J3.out.on hb9)
    have HB:=Lib.hid (chain HB.out hb9 (Nat.le_refl _))
    clear hb9
    obtain ⟨a0,a1,a2,-,-,-⟩:=J1.out.get3
    obtain ⟨b0,b1,b2,-,-,-⟩:=J2.out.get3
    go_wp2_with fail
    refine (HS.out _).mono ?_; rintro e w9 ⟨rfl,hb9⟩
    clear a0 a1 a2 b0 b1 b2
    have J1:=Lib.hid (J1.out.on hb9)
    have J2:=Lib.hid (J2.out.on hb9)
    have J3:=Lib.hid (J3.out.on hb9)
    have HB:=Lib.hid (chain HB.out hb9 (Nat.le_refl _))
    clear hb9
    obtain ⟨c0,c1,c2,c3,c4,c5⟩:=J3.out.get3
    have H2:=J3
    go_wp2
    refine bodyPost_forget (fun W=>Blk W (w.heap.size+1+1) #[.bool r1,.string r2,.string r3]∧Below w.heap.size w W) ⟨by exact Blk.set3 H2.out _ _ _,below_set3 HB.out (by omega) _ _ _⟩ ?_
    rintro WR ⟨hr9,hb9⟩
    obtain ⟨y90,y91,y92,-,-,-⟩:=hr9.get3
    exact bodyPost_ret (v:=.agg #[.bool r1,.string r2,.string r3]) (by simp [results,Tryz.results131,go_sem,y90,y91,y92]) rfl ⟨rfl,hb9⟩
 ·have hne:(p3.toList == q3.toList)=false:=str_ne h3
  have MX:=Lib.hid (HD.out.mx h3)
  have MY:=Lib.hid (HD.out.my h3)
  have MD:=Lib.hid (HD.out.md h3)
  go_wp2_with fail
  clear a0 a1 a2 b0 b1 b2
  obtain ⟨k0,k1,k2⟩:=J1.out.later3
  obtain ⟨k3,k4,k5⟩:=J2.out.later3
  refine wp_region_qb (by kernel_rfl) (by kernel_rfl) ?_
  repeat (first | go_big_quiet_skip | (refine wpQuiet_step (fun K hK=>?_); go_simp; (try simp (disch:=omega) only [ar9]); (first | (refine hK _ ?_; clear hK K) | (apply Exists.intro; refine ⟨fun _=>?_,hK _ ?_⟩; (first | with_reducible exact Calls.later (HD.out.dp _) | with_reducible exact Calls.later (HD.out.dq _) | with_reducible exact Calls.later (MX.out _) | with_reducible exact Calls.later (MY.out _)); clear hK K))))
  clear k0 k1 k2 k3 k4 k5
  refine wpQuiet_nil ?_
  intro W2 hb9
  have J1:=Lib.hid (J1.out.on hb9)
  have J2:=Lib.hid (J2.out.on hb9)
  have J3:=Lib.hid (J3.out.on hb9)
  have HB:=Lib.hid (chain HB.out hb9 (Nat.le_refl _))
  clear hb9
  go_wp2_with fail
  obtain ⟨k0,k1,k2⟩:=J1.out.later3
  obtain ⟨k3,k4,k5⟩:=J2.out.later3
  refine wp_region_qb (by kernel_rfl) (by kernel_rfl) ?_
  repeat (first | go_big_quiet_skip | (refine wpQuiet_step (fun K hK=>?_); go_simp; (try simp (disch:=omega) only [ar9]); (first | (refine hK _ ?_; clear hK K) | (apply Exists.intro; refine ⟨fun _=>?_,hK _ ?_⟩; (first | with_reducible exact Calls.later (HD.out.dp _) | with_reducible exact Calls.later (HD.out.dq _) | with_reducible exact Calls.later (MD.out _)); clear hK K))))
  clear k0 k1 k2 k3 k4 k5
  refine wpQuiet_nil ?_
  intro W3 hb9
  have J1:=Lib.hid (J1.out.on hb9)
  have J2:=Lib.hid (J2.out.on hb9)
  have J3:=Lib.hid (J3.out.on hb9)
  have HB:=Lib.hid (chain HB.out hb9 (Nat.le_refl _))
  clear hb9
  obtain ⟨a0,a1,a2,-,-,-⟩:=J1.out.get3
  obtain ⟨b0,b1,b2,-,-,-⟩:=J2.out.get3
  by_cases hs:p1=q1
  ·subst hs
   have HS:=Lib.hid (HD.out.same rfl)
   go_wp2_with fail
   clear a0 a1 a2 b0 b1 b2
   obtain ⟨k0,k1,k2⟩:=J1.out.later3
   obtain ⟨k3,k4,k5⟩:=J2.out.later3
   refine wp_region_qbt 7 (by kernel_rfl) (by kernel_rfl) ?_
   simp only [List.take_succ_cons,List.take_zero,List.drop_succ_cons,List.drop_zero]
   repeat (first | go_big_quiet_skip | (refine wpQuiet_step (fun K hK=>?_); go_simp; (try simp (disch:=omega) only [ar9]); (first | (refine hK _ ?_; clear hK K) | (apply Exists.intro; refine ⟨fun _=>?_,hK _ ?_⟩; (first | with_reducible exact Calls.later (HD.out.ad _) | with_reducible exact Calls.later (HS.out _)); clear hK K))))
   clear k0 k1 k2 k3 k4 k5
   refine wpQuiet_nil ?_
   intro W7 hb9
   have J1:=Lib.hid (J1.out.on hb9)
   have J2:=Lib.hid (J2.out.on hb9)
   have J3:=Lib.hid (J3.out.on hb9)
   have HB:=Lib.hid (chain HB.out hb9 (Nat.le_refl _))
   clear hb9
   obtain ⟨c0,c1,c2,c3,c4,c5⟩:=J3.out.get3
   have H2:=J3
   go_wp2
   refine bodyPost_forget (fun W=>Blk W (w.heap.size+1+1) #[.bool r1,.string r2,.string r3]∧Below w.heap.size w W) ⟨by exact Blk.set3 H2.out _ _ _,below_set3 HB.out (by omega) _ _ _⟩ ?_
   rintro WR ⟨hr9,hb9⟩
   obtain ⟨y90,y91,y92,-,-,-⟩:=hr9.get3
   exact bodyPost_ret (v:=.agg #[.bool r1,.string r2,.string r3]) (by simp [results,Tryz.results131,go_sem,y90,y91,y92]) rfl ⟨rfl,hb9⟩
  ·have hs1:(p1 == q1)=false:=by simp [hs]
   by_cases hl:y≤x
   ·have HS:=Lib.hid (HD.out.more hs hl)
    have hsv:=subV_yes hl
    go_wp2_with fail
    refine (HD.out.sb _).mono ?_; rintro e w7 ⟨he7,hb9⟩
    rw [hsv] at he7; subst he7
    clear a0 a1 a2 b0 b1 b2
    have J1:=Lib.hid (J1.out.on hb9)
    have J2:=Lib.hid (J2.out.on hb9)
    have J3:=Lib.hid (J3.out.on hb9)
    have HB:=Lib.hid (chain HB.out hb9 (Nat.le_refl _))
    clear hb9
    obtain ⟨a0,a1,a2,-,-,-⟩:=J1.out.get3
    obtain ⟨b0,b1,b2,-,-,-⟩:=J2.out.get3
    go_wp2_with fail
    refine (HS.out _).mono ?_; rintro e w8 ⟨rfl,hb9⟩
    clear a0 a1 a2 b0 b1 b2
    have J1:=Lib.hid (J1.out.on hb9)
    have J2:=Lib.hid (J2.out.on hb9)
    have J3:=Lib.hid (J3.out.on hb9)
    have HB:=Lib.hid (chain HB.out hb9 (Nat.le_refl _))
    clear hb9
    obtain ⟨c0,c1,c2,c3,c4,c5⟩:=J3.out.get3
    have H2:=J3
    go_wp2
    refine bodyPost_forget (fun W=>Blk W (w.heap.size+1+1) #[.bool r1,.string r2,.string r3]∧Below w.heap.size w W) ⟨by exact Blk.set3 H2.out _ _ _,below_set3 HB.out (by omega) _ _ _⟩ ?_
    rintro WR ⟨hr9,hb9⟩
    obtain ⟨y90,y91,y92,-,-,-⟩:=hr9.get3
    exact bodyPost_ret (v:=.agg #[.bool r1,.string r2,.string r3]) (by simp [results,Tryz.results131,go_sem,y90,y91,y92]) rfl ⟨rfl,hb9⟩
   ·have HS:=Lib.hid (HD.out.less hs (by omega))
    have hsv:=subV_no (show x<y by omega)
    have hsw:=subV_yes (show x≤y by omega)
    go_wp2_with fail
    refine (HD.out.sb _).mono ?_; rintro e w7 ⟨he7,hb9⟩
    rw [hsv] at he7; subst he7
    clear a0 a1 a2 b0 b1 b2
    have J1:=Lib.hid (J1.out.on hb9)
    have J2:=Lib.hid (J2.out.on hb9)
    have J3:=Lib.hid (J3.out.on hb9)
    have HB:=Lib.hid (chain HB.out hb9 (Nat.le_refl _))
    clear hb9
    go_wp2_with fail
    refine (HD.out.sc _).mono ?_; rintro e w8 ⟨he8,hb9⟩
    rw [hsw] at he8; subst he8
    have J1:=Lib.hid (J1.out.on hb9)
    have J2:=Lib.hid (J2.out.on hb9)
    have J3:=Lib.hid (J3.out.on hb9)
    have HB:=Lib.hid (chain HB.out hb9 (Nat.le_refl _))
    clear hb9
    obtain ⟨a0,a1,a2,-,-,-⟩:=J1.out.get3
    obtain ⟨b0,b1,b2,-,-,-⟩:=J2.out.get3
    go_wp2_with fail
    refine (HS.out _).mono ?_; rintro e w9 ⟨rfl,hb9⟩
    clear a0 a1 a2 b0 b1 b2
    have J1:=Lib.hid (J1.out.on hb9)
    have J2:=Lib.hid (J2.out.on hb9)
    have J3:=Lib.hid (J3.out.on hb9)
    have HB:=Lib.hid (chain HB.out hb9 (Nat.le_refl _))
    clear hb9
    obtain ⟨c0,c1,c2,c3,c4,c5⟩:=J3.out.get3
    have H2:=J3
    go_wp2
    refine bodyPost_forget (fun W=>Blk W (w.heap.size+1+1) #[.bool r1,.string r2,.string r3]∧Below w.heap.size w W) ⟨by exact Blk.set3 H2.out _ _ _,below_set3 HB.out (by omega) _ _ _⟩ ?_
    rintro WR ⟨hr9,hb9⟩
    obtain ⟨y90,y91,y92,-,-,-⟩:=hr9.get3
    exact bodyPost_ret (v:=.agg #[.bool r1,.string r2,.string r3]) (by simp [results,Tryz.results131,go_sem,y90,y91,y92]) rfl ⟨rfl,hb9⟩
set_option maxRecDepth 100000 in
theorem add_rat (n1:Bool) (s1 d1:ByteArray) (n2:Bool) (s2 d2:ByteArray) (w:World) (h1:s1.size+d1.size≤268435456) (h2:s2.size+d2.size≤268435456) :
  Calls Tryz.prog 93 #[.agg #[.bool n1,.string s1,.string d1],.agg #[.bool n2,.string s2,.string d2]] w fun e w'=>e = .returned (rv (rq n1 s1 d1+rq n2 s2 d2))∧Below w.heap.size w w':=by
 have HC1:=Lib.hid (fun w=>clean_agg n1 s1 d1 w (by omega) (by omega))
 have HC2:=Lib.hid (fun w=>clean_agg n2 s2 d2 w (by omega) (by omega))
 have HCC:=Lib.hid (fun w=>plusR_any (rq n1 s1 d1) (rq n2 s2 d2) _ _ w (sm_raw n1 s1 d1) (sm_raw n2 s2 d2) (by omega))
 generalize rq n1 s1 d1=p at *
 generalize rq n2 s2 d2=q at *
 unfold rv
 generalize rn (p+q)=r1 at *
 generalize rs (p+q)=r2 at *
 generalize rd (p+q)=r3 at *
 generalize rn p=p1 at *
 generalize rs p=p2 at *
 generalize rd p=p3 at *
 generalize rn q=q1 at *
 generalize rs q=q2 at *
 generalize rd q=q3 at *
 go_enter Tryz.func93,Tryz.ntmps93
 go_wp2_with fail
 refine wp_forget (fun W=>Blk W w.heap.size #[.bool n1,.string s1,.string d1]∧Blk W (w.heap.size+1) #[.bool n2,.string s2,.string d2]∧Blk W (w.heap.size+1+1) #[.bool false,.string ⟨#[]⟩,.string ⟨#[]⟩]∧Below w.heap.size w W) (three_boxes w _ _ _ _ _ _) ?_
 rintro W ⟨H1,H2,H3,HB⟩
 obtain ⟨k0,k1,k2⟩:=H1.later3
 obtain ⟨k3,k4,k5⟩:=H2.later3
 refine wp_region_qbt 5 (by kernel_rfl) (by kernel_rfl) ?_
 simp only [List.take_succ_cons,List.take_zero,List.drop_succ_cons,List.drop_zero]
 repeat (first | go_big_quiet_skip | (refine wpQuiet_step (fun K hK=>?_); go_simp; (try simp (disch:=omega) only [ar9]); (first | (refine hK _ ?_; clear hK K) | (apply Exists.intro; refine ⟨fun _=>?_,hK _ ?_⟩; (first | with_reducible exact Calls.later (HC1.out _) | with_reducible exact Calls.later (HC2.out _) | with_reducible exact Calls.later (HCC.out _)); clear hK K))))
 clear k0 k1 k2 k3 k4 k5
 refine wpQuiet_nil ?_
 intro W5 hb5
 have H2:=Lib.hid (H3.on hb5)
 have HB:=Lib.hid (chain HB hb5 (Nat.le_refl _))
 obtain ⟨a0,a1,a2,a3,a4,a5⟩:=H2.out.get3
 clear hb5 H3 H1
 go_wp2
 refine bodyPost_forget (fun W=>Blk W (w.heap.size+1+1) #[.bool r1,.string r2,.string r3]∧Below w.heap.size w W) ⟨by exact Blk.set3 H2.out _ _ _,below_set3 HB.out (by omega) _ _ _⟩ ?_
 rintro WR ⟨hr9,hb9⟩
 obtain ⟨y90,y91,y92,-,-,-⟩:=hr9.get3
 exact bodyPost_ret (v:=.agg #[.bool r1,.string r2,.string r3]) (by simp [results,Tryz.results93,go_sem,y90,y91,y92]) rfl ⟨rfl,hb9⟩
def posR (q:Rat):Rat:=if rn q=true then 0 else q
end Go.Proofs.Ins
namespace Go.Proofs.Xe
open Go.RowKit Go.Proofs.Ins
def szK:Nat:=60000000
def Sz (q:Rat):Prop:=Sm szK q
def SzN (a:Nat):Prop:=(bn a).size≤60000000
def rV (q:Rat):V:=.agg [.bool (rn q),.str (rs q),.str (rd q)]
def rbV (q:Rat) (b:Bool):V:=.tcons (rV q) (.tcons (.c (.bool b)) .tnil)
def iV (i:Int):V:=.c (.int .i64 i)
theorem Sz.sizes {p:Rat} (h:Sz p):(rs p).size≤60000000∧(rd p).size≤60000000:=⟨Sm.rs h,Sm.rd h⟩
theorem rV_RV (q:Rat) (φ:Ph):RV φ (rV q) (rv q):=⟨_,rfl,rfl,rfl,rfl,trivial⟩
theorem rbV_RV (q:Rat) (b:Bool) (φ:Ph):RV φ (rbV q b) (rvB q b):=⟨_,[.bool b],rfl,rV_RV q φ,.bool b,[],rfl,rfl,rfl⟩
def okFB (P : Program) (f : Nat) : Bool := match P.funcs[f]? with | some fn => !fn.body.isNone && !(fn.name == "runtime.NumGoroutine") | none => false
theorem okF_of {P:Program} {f:Nat} (h:okFB P f=true):okF P f:=by
 unfold okFB at h
 split at h
 ·next fn hfn =>
  simp only [Bool.and_eq_true,Bool.not_eq_true'] at h
  exact ⟨fn,hfn,h.1,h.2⟩
 ·cases h
def Ct (P:Program) (f:Nat) (v:V) (cargs:Array Value) (w:World):Prop :=
 Calls P f cargs w fun e w'=>∃ cv,e = .returned cv∧Below w.heap.size w w'∧∀ φ',RV φ' v cv
variable {φ:Ph} {args:List V} {v:V} {cargs:Array Value} {P:Program} {f:Nat}
theorem one_arg {x:V} (h:RVs φ [x] cargs.toList) : ∃ u,cargs = #[u]∧RV φ x u:=by
 obtain ⟨l⟩:=cargs
 match l,h with
 | [u],h=>exact ⟨u,rfl,h.1⟩
theorem two_args {x y:V} (h:RVs φ [x,y] cargs.toList) : ∃ u v,cargs = #[u,v]∧RV φ x u∧RV φ y v:=by
 obtain ⟨l⟩:=cargs
 match l,h with
 | [u,v],h=>exact ⟨u,v,rfl,h.1,h.2.1⟩
theorem three_args {x y z:V} (h:RVs φ [x,y,z] cargs.toList) : ∃ u v t,cargs = #[u,v,t]∧RV φ x u∧RV φ y v∧RV φ z t:=by
 obtain ⟨l⟩:=cargs
 match l,h with
 | [u,v,t],h=>exact ⟨u,v,t,rfl,h.1,h.2.1,h.2.2.1⟩
theorem ite_fn {c:Prop} [Decidable c] {x y:List V→Option V} {a:List V} {v:V} (h:(if c then x else y) a=some v):(c∧x a=some v)∨(¬ c∧y a=some v):=by
 by_cases hc:c
 ·rw [if_pos hc] at h; exact .inl ⟨hc,h⟩
 ·rw [if_neg hc] at h; exact .inr ⟨hc,h⟩
inductive FT where
 | leaf
 | node (k:Nat) (F:AF) (l r:FT)
def FT.find:FT→Nat→Option AF
 | .leaf,_=>none
 | .node k F l r,f=>bif Nat.beq f k then some F else bif Nat.blt f k then l.find f else r.find f
def FT.all (p:Nat→AF→Bool):FT→Bool
 | .leaf=>true
 | .node k F l r=>p k F && (l.all p && r.all p)
theorem FT.find_all {p:Nat→AF→Bool} {f:Nat} {F:AF} : ∀ {t:FT},t.all p=true→t.find f=some F→p f F=true
 | .leaf,_,h=>by cases h
 | .node k G l r,ha,h=>by
  simp only [FT.all,Bool.and_eq_true] at ha
  unfold FT.find at h
  rw [bif_beq] at h
  split at h
  ·next e=>cases h; rw [e]; exact ha.1
  ·cases hb:Nat.blt f k with
   | true=>rw [hb] at h; exact FT.find_all ha.2.1 h
   | false=>rw [hb] at h; exact FT.find_all ha.2.2 h
abbrev ki (n:Nat):O:=.k (.c (.int .i64 (.ofNat n)))
abbrev kf (n:Nat):O:=.k (.fn n [])
abbrev kb (b:Bool):O:=.k (.c (.bool b))
abbrev d (n:Nat):Option Nat:=some n
abbrev s0:B:=.str ⟨#[]⟩
abbrev i0:B:=.int .i64 (.ofNat 0)
noncomputable section
open Classical in
def kR2 (R:Rat→Rat→V):List V→Option V
 | [.agg [.bool n,.str s,.str d],.agg [.bool m,.str t,.str e]]=>if s.size+d.size≤130000000∧t.size+e.size≤130000000 then some (R (rq n s d) (rq m t e)) else none
 | _=>none
open Classical in
def kR1 (R:Rat→V):List V→Option V
 | [.agg [.bool n,.str s,.str d]]=>if s.size+d.size≤130000000 then some (R (rq n s d)) else none
 | _=>none
open Classical in
def k2 (R:Rat→Rat→V) (args:List V):Option V:=if h : ∃ x:Rat×Rat,args=[rV x.1,rV x.2]∧Sz x.1∧Sz x.2 then some (R (Classical.choose h).1 (Classical.choose h).2) else none
open Classical in
def k1 (R:Rat→V) (args:List V):Option V:=if h : ∃ p:Rat,args=[rV p]∧Sz p then some (R (Classical.choose h)) else none
open Classical in
def kN2 (R:Nat→Nat→V) (args:List V):Option V:=if h : ∃ x:Nat×Nat,args=[.c (.str (bn x.1)),.c (.str (bn x.2))]∧SzN x.1∧SzN x.2 then some (R (Classical.choose h).1 (Classical.choose h).2) else none
open Classical in
def kND (R:Nat→Nat→V) (args:List V):Option V:=if h : ∃ x:Nat×Nat,args=[.c (.str (bn x.1)),.c (.str (bn x.2))]∧SzN x.1∧SzN x.2∧0<x.2 then some (R (Classical.choose h).1 (Classical.choose h).2) else none
open Classical in
def kMk (R:Bool→Nat→Nat→V) (args:List V):Option V:=if h : ∃ x:Bool×Nat×Nat,args=[.c (.bool x.1),.c (.str (bn x.2.1)),.c (.str (bn x.2.2))]∧SzN x.2.1∧SzN x.2.2∧0<x.2.2 then some (R (Classical.choose h).1 (Classical.choose h).2.1 (Classical.choose h).2.2) else none
def kI (R:Int→V):List V→Option V
 | [.c (.int .i64 i)]=>if -9223372036854775808≤i∧i≤9223372036854775807 then some (R i) else none
 | _=>none
def kU (R:Nat→V):List V→Option V
 | [.c (.int .u16 i)]=>if 0≤i∧i≤65535 then some (R i.toNat) else none
 | _=>none
def kF (R:Nat→V):List V→Option V
 | [.c (.int .u64 i)]=>if 0≤i∧i<18446744073709551616 then some (R i.toNat) else none
 | _=>none
def k0 (v:V):List V→Option V
 | []=>some v
 | _=>none
end
theorem bn_inj {a b:Nat} (h:bn a=bn b):a=b:=by rw [← nv_bn a,← nv_bn b,h]
theorem kI_eq (R:Int→V) {i:Int} (h1 : -9223372036854775808≤i) (h2:i≤9223372036854775807):kI R [.c (.int .i64 i)]=some (R i):=by
 unfold kI; simp only; rw [if_pos ⟨h1,h2⟩]
theorem kU_eq (R:Nat→V) {x:Nat} (h1:x≤65535):kU R [.c (.int .u16 (x:Int))]=some (R x):=by
 unfold kU; simp only; rw [if_pos (by omega),Int.toNat_natCast]
theorem kI_ok {R:Int→V} (hc : ∀ i w,-9223372036854775808≤i→i≤9223372036854775807→Ct P f (R i) #[.int .i64 i] w) (h:kI R args=some v) (ha:RVs φ args cargs.toList) (w:World):Ct P f v cargs w:=by
 unfold kI at h
 split at h
 ·split at h
  ·next hs =>
   cases h
   obtain ⟨u,rfl,hu⟩:=one_arg ha
   have hu:u=_:=hu
   rw [hu]
   exact hc _ w hs.1 hs.2
  ·cases h
 ·cases h
theorem kU_ok {R:Nat→V} (hc : ∀ (x:Nat) w,x≤65535→Ct P f (R x) #[.int .u16 (x:Int)] w) (h:kU R args=some v) (ha:RVs φ args cargs.toList) (w:World):Ct P f v cargs w:=by
 unfold kU at h
 split at h
 ·next i =>
  split at h
  ·next hs =>
   cases h
   obtain ⟨u,rfl,hu⟩:=one_arg ha
   have hu:u = .int .u16 i:=hu
   have:=hc i.toNat w (by omega)
   rw [Int.toNat_of_nonneg hs.1] at this
   rw [hu]; exact this
  ·cases h
 ·cases h
noncomputable section
def orcP (f:Nat):List V→Option V :=
 if f=31 then kI (fun i=>rV (i:Rat))
 else if f=35 then kU (fun x=>rV (amt x))
 else fun _=>none
set_option maxRecDepth 100000 in
theorem orcP_ok (f:Nat) (args:List V) (v:V) (h:orcP f args=some v):okF Tryz.prog f∧∀ (φ:Ph) (cargs:Array Value) (w:World),RVs φ args cargs.toList→Ct Tryz.prog f v cargs w:=by
 unfold orcP at h
 replace h:=ite_fn h
 rcases h with ⟨e,h⟩ | ⟨-,h⟩
 ·subst e
  exact ⟨okF_of (by kernel_rfl),fun φ cargs w ha=>kI_ok (R:=fun i=>rV (i:Rat)) (fun i w h1 h2=>(whole_any i w h1 h2).mono fun _ _ he=>⟨_,he.1,he.2,fun φ=>rV_RV _ φ⟩) h ha w⟩
 replace h:=ite_fn h
 rcases h with ⟨e,h⟩ | ⟨-,h⟩
 ·subst e
  exact ⟨okF_of (by kernel_rfl),fun φ cargs w ha=>kU_ok (R:=fun x=>rV (amt x)) (fun x w h1=>(amount_any x w h1).mono fun _ _ he=>⟨_,he.1,he.2,fun φ=>rV_RV _ φ⟩) h ha w⟩
 cases h
def orcE (f:Nat) (args:List V) (σ:St):Option (V×St):=match orcP f args with | some v=>some (v,σ) | none=>none
theorem orcE_ok (f:Nat) (args:List V) (σ:St) (v:V) (σ' : St) (h:orcE f args σ=some (v,σ')):okF Tryz.prog f∧∀ (N:Nat) (w0:World) (φ:Ph) (w:World) (cargs:Array Value),Rel N w0 φ σ w→RVs φ args cargs.toList →
  Calls Tryz.prog f cargs w fun e w'=>∃ cv,e = .returned cv∧∃ φ',Ext σ.nxt φ φ'∧Rel N w0 φ' σ' w'∧RV φ' v cv∧σ.nxt≤σ'.nxt:=by
 unfold orcE at h
 split at h
 ·next u hu =>
  cases h
  obtain ⟨h1,h2⟩:=orcP_ok f args _ hu
  refine ⟨h1,fun N w0 φ w cargs hR ha=>(h2 φ cargs w ha).mono fun e w' he=>?_⟩
  obtain ⟨cv,rfl,hb,hv⟩:=he
  exact ⟨cv,rfl,φ,Ext.refl _ _,hR.below hb,hv φ,Nat.le_refl _⟩
 ·cases h
class HasO (E:Env):Prop where
 o : ∀ f args σ v,orcP f args=some v→E.orc f args σ=some (v,σ)
theorem callX_pure {E:Env} [hE:HasO E] {f:Nat} {args:List V} {v:V} {σ:St} {K:V→St→Prop} (h:orcP f args=some v):CallX E f args σ K=K v σ:=by
 refine propext ⟨fun ⟨n,v',σ',h1,h2⟩=>?_,fun hk=>call_orc (hE.o f args σ v h) hk⟩
 have h3:callF E 1 f args σ=some (v,σ):=by rw [callF]; unfold xCall; rw [hE.o f args σ v h]
 have a:=callF_mono (show n≤n+1 by omega) f args σ _ h1
 have b:=callF_mono (show 1≤n+1 by omega) f args σ _ h3
 rw [a] at b
 cases b
 exact h2
section
variable {E:Env} {σ:St} {K:V→St→Prop}
theorem x_lWhole [HasO E] (i:Int) (h1 : -9223372036854775808≤i) (h2:i≤9223372036854775807):CallX E 31 [.c (.int .i64 i)] σ K=K (.agg [.bool (rn (i:Rat)),.str (rs (i:Rat)),.str (rd (i:Rat))]) σ:=callX_pure (by unfold orcP; simp only [Nat.reduceEqDiff,reduceIte]; exact kI_eq _ h1 h2)
theorem x_lAmount [HasO E] (x:Nat) (h1:x≤65535):CallX E 35 [.c (.int .u16 (.ofNat x))] σ K=K (.agg [.bool (rn (amt x)),.str (rs (amt x)),.str (rd (amt x))]) σ:=callX_pure (by unfold orcP; simp only [Nat.reduceEqDiff,reduceIte]; exact kU_eq _ h1)
end
end
end Go.Proofs.Xe
