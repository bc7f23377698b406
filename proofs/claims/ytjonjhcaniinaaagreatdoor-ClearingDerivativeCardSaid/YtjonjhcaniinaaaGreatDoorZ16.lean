/- The walks of rational.negate, Subtract and cO.Subtract, Positive. -/
import Derived.Test.YtjonjhcaniinaaaGreatDoorZ8
set_option linter.all false
set_option maxRecDepth 100000
set_option maxHeartbeats 8000000
namespace Go.Proofs.Ins
open Go.RowKit
structure arP (p1:Bool) (p2 p3:ByteArray) (q1:Bool) (q2 q3:ByteArray) (P1 P2 X Y D A:ByteArray) (x y:Nat) (r1:Bool) (r2 r3:ByteArray):Prop where
 dp : ∀ w,Calls Tryz.prog 38 #[.agg #[.bool p1,.string p2,.string p3]] w fun e w'=>e = .returned (.string P1)∧Below w.heap.size w w'
 dq : ∀ w,Calls Tryz.prog 38 #[.agg #[.bool q1,.string q2,.string q3]] w fun e w'=>e = .returned (.string P2)∧Below w.heap.size w w'
 mx:p3≠q3→∀ w,Calls Tryz.prog 37 #[.string p2,.string P2] w fun e w'=>e = .returned (.string X)∧Below w.heap.size w w'
 my:p3≠q3→∀ w,Calls Tryz.prog 37 #[.string q2,.string P1] w fun e w'=>e = .returned (.string Y)∧Below w.heap.size w w'
 md:p3≠q3→∀ w,Calls Tryz.prog 37 #[.string P1,.string P2] w fun e w'=>e = .returned (.string D)∧Below w.heap.size w w'
 ex:p3=q3→X=p2∧Y=q2∧D=P1
 ad : ∀ w,Calls Tryz.prog 77 #[.string X,.string Y] w fun e w'=>e = .returned (.string A)∧Below w.heap.size w w'
 sb : ∀ w,Calls Tryz.prog 78 #[.string X,.string Y] w fun e w'=>e = .returned (OY x y)∧Below w.heap.size w w'
 sc : ∀ w,Calls Tryz.prog 78 #[.string Y,.string X] w fun e w'=>e = .returned (OY y x)∧Below w.heap.size w w'
 same:p1=q1→∀ w,Calls Tryz.prog 47 #[.bool p1,.string A,.string D] w fun e w'=>e = .returned (.agg #[.bool r1,.string r2,.string r3])∧Below w.heap.size w w'
 more:p1≠q1→y≤x→∀ w,Calls Tryz.prog 47 #[.bool p1,.string (bn (x - y)),.string D] w fun e w'=>e = .returned (.agg #[.bool r1,.string r2,.string r3])∧Below w.heap.size w w'
 less:p1≠q1→x<y→∀ w,Calls Tryz.prog 47 #[.bool q1,.string (bn (y - x)),.string D] w fun e w'=>e = .returned (.agg #[.bool r1,.string r2,.string r3])∧Below w.heap.size w w'
def Md (p q:Rat):Nat:=if rd p=rd q then nm p else nm p*q.den
def Me (p q:Rat):Nat:=if rd p=rd q then nm q else nm q*p.den
def Vm (p q:Rat):Nat:=if rd p=rd q then p.den else p.den*q.den
theorem aaR {p q:Rat} (h:rd p=rd q):p.den=q.den:=by rw [← acE p,← acE q,h]
theorem WM (p q:Rat):p+q=mkRat (oM (rn p) (Md p q)+oM (rn q) (Me p q)) (Vm p q):=by
 unfold Md Me Vm
 by_cases h:rd p=rd q
 ·rw [if_pos h,if_pos h,if_pos h];exact RJ (aaR h)
 ·rw [if_neg h,if_neg h,if_neg h];exact VE p q
theorem ahD (p q:Rat) (k l:Nat) (hp:Sm k p) (hq:Sm l q) (hkl:k+l+1≤1073741824) :
  arP (rn p) (rs p) (rd p) (rn q) (rs q) (rd q) (bn p.den) (bn q.den) (bn (Md p q)) (bn (Me p q)) (bn (Vm p q)) (bn (Md p q+Me p q)) (Md p q) (Me p q) (rn (p+q)) (rs (p+q)) (rd (p+q)):=by
 have one : ∀ a b:Nat,(256:Nat) ^ a≤256 ^ (a+b):=fun a b=>Nat.pow_le_pow_right jb jb
 have kx:Md p q<256 ^ (k+l):=by
  unfold Md;split
  ·exact Nat.lt_of_lt_of_le hp.1 (one k l)
  ·exact iW hp.1 hq.2
 have ky:Me p q<256 ^ (k+l):=by
  unfold Me;split
  ·rw [Nat.add_comm];exact Nat.lt_of_lt_of_le hq.1 (one l k)
  ·rw [Nat.add_comm];exact iW hq.1 hp.2
 have kd:Vm p q<256 ^ (k+l):=by
  unfold Vm;split
  ·exact Nat.lt_of_lt_of_le hp.2 (one k l)
  ·exact iW hp.2 hq.2
 have d0:0<Vm p q:=by
  unfold Vm;split
  ·exact p.den_pos
  ·exact Nat.mul_pos p.den_pos q.den_pos
 have e1:(256:Nat) ^ (k+l+1)=256*256 ^ (k+l):=by rw [Nat.pow_succ,Nat.mul_comm]
 have nx:=lu kx jb
 have ny:=lu ky jb
 refine ⟨fun w=>uP p w,fun w=>uP q w,fun h w=>?_,fun h w=>?_,fun h w=>?_,fun h=>?_,fun w=>?_,fun w=>?_,fun w=>?_,fun he w=>?_,fun he hl w=>?_,fun he hl w=>?_⟩
 ·have:=nS (nm p) q.den k l w hp.1 hq.2 jb jb
  unfold Md;rw [if_neg h];exact this
 ·have:=nS (nm q) p.den l k w hq.1 hp.2 jb jb
  unfold Me;rw [if_neg h];exact this
 ·have:=nS p.den q.den k l w hp.2 hq.2 jb jb
  unfold Vm;rw [if_neg h];exact this
 ·unfold Md Me Vm;rw [if_pos h,if_pos h,if_pos h];exact ⟨rfl,rfl,rfl⟩
 ·have:=add_any (bn (Md p q)) (bn (Me p q)) w nx ny
  rw [bK,bK] at this;exact this
 ·have:=vG (bn (Md p q)) (bn (Me p q)) w nx ny
  rw [bK,bK] at this;exact this
 ·have:=vG (bn (Me p q)) (bn (Md p q)) w ny nx
  rw [bK,bK] at this;exact this
 ·have:=CY (rn p) (Md p q+Me p q) (Vm p q) (k+l+1) (k+l) w jb kd jb jb d0
  rw [show fr (rn p) (Md p q+Me p q) (Vm p q)=p+q by rw [WM,← he,CG];rfl] at this;exact this
 ·have:=CY (rn p) (Md p q - Me p q) (Vm p q) (k+l+1) (k+l) w jb kd jb jb d0
  rw [show fr (rn p) (Md p q - Me p q) (Vm p q)=p+q by rw [WM,rH he hl];rfl] at this;exact this
 ·have:=CY (rn q) (Me p q - Md p q) (Vm p q) (k+l+1) (k+l) w jb kd jb jb d0
  rw [show fr (rn q) (Me p q - Md p q) (Vm p q)=p+q by rw [WM,Int.add_comm,rH (Ne.symm he) jb];rfl] at this;exact this
set_option maxRecDepth 100000 in
theorem Ac (p q:Rat) (k l:Nat) (w:World) (hp:Sm k p) (hq:Sm l q) (hkl:k+l+1≤1073741824) :
  Calls Tryz.prog 41 #[.agg #[.bool (rn p),.string (rs p),.string (rd p)],.agg #[.bool (rn q),.string (rs q),.string (rd q)]] w fun e w'=>e = .returned (.agg #[.bool (rn (p+q)),.string (rs (p+q)),.string (rd (p+q))])∧Below w.heap.size w w':=by
 have Et:=ahD p q k l hp hq hkl
 clear hp hq hkl
 generalize bn (Md p q+Me p q)=A at *
 generalize bn (Md p q)=X at *
 generalize bn (Me p q)=Y at *
 generalize bn (Vm p q)=D at *
 generalize Md p q=x at *
 generalize Me p q=y at *
 generalize bn p.den=P1 at *
 generalize bn q.den=P2 at *
 generalize rn (p+q)=r1 at *
 generalize rs (p+q)=r2 at *
 generalize rd (p+q)=r3 at *
 generalize rn p=p1 at *
 generalize rs p=p2 at *
 generalize rd p=p3 at *
 generalize rn q=q1 at *
 generalize rs q=q2 at *
 generalize rd q=q3 at *
 have HD:=Lib.hid Et
 clear Et
 go_enter Tryz.func41,Tryz.ntmps41
 go_wp2_with fail
 refine dU (fun W=>bY W w.heap.size #[.bool p1,.string p2,.string p3]∧bY W (w.heap.size+1) #[.bool q1,.string q2,.string q3]∧bY W (w.heap.size+1+1) #[.bool false,.string ⟨#[]⟩,.string ⟨#[]⟩]∧Below w.heap.size w W) (ql w _ _ _ _ _ _) ?_
 rintro W ⟨H1,H2,H3,HB⟩
 obtain ⟨k0,k1,k2⟩:=H1.gX
 obtain ⟨k3,k4,k5⟩:=H2.gX
 refine bU (by kernel_rfl) (by kernel_rfl) ?_
 repeat (first|go_big_quiet_skip|(refine wpQuiet_step (fun K hK=>?_);go_simp;(try simp (disch:=omega) only [Ed]);(first|(refine hK _ ?_;clear hK K)|(apply Exists.intro;refine ⟨fun _=>?_,hK _ ?_⟩;(fail);clear hK K))))
 clear k0 k1 k2 k3 k4 k5
 refine wpQuiet_nil ?_
 intro W1 bD
 have J1:=Lib.hid (H1.on bD)
 have J2:=Lib.hid (H2.on bD)
 have J3:=Lib.hid (H3.on bD)
 have HB:=Lib.hid (chain HB bD (Nat.le_refl _))
 clear bD
 obtain ⟨a0,a1,a2,-,-,-⟩:=J1.out.bC
 obtain ⟨b0,b1,b2,-,-,-⟩:=J2.out.bC
 by_cases h3:p3=q3
 ·subst h3
  obtain ⟨hX,hY,hD⟩:=HD.out.ex rfl
  subst hX hY hD
  go_wp2_with fail
  refine (HD.out.dp _).mono ?_;rintro e w3 ⟨rfl,bD⟩
  clear a0 a1 a2 b0 b1 b2
  have J1:=Lib.hid (J1.out.on bD)
  have J2:=Lib.hid (J2.out.on bD)
  have J3:=Lib.hid (J3.out.on bD)
  have HB:=Lib.hid (chain HB.out bD (Nat.le_refl _))
  clear bD
  obtain ⟨a0,a1,a2,-,-,-⟩:=J1.out.bC
  obtain ⟨b0,b1,b2,-,-,-⟩:=J2.out.bC
  by_cases hs:p1=q1
  ·subst hs
   have HS:=Lib.hid (HD.out.same rfl)
   go_wp2_with fail
   clear a0 a1 a2 b0 b1 b2
   obtain ⟨k0,k1,k2⟩:=J1.out.gX
   obtain ⟨k3,k4,k5⟩:=J2.out.gX
   refine iC 7 (by kernel_rfl) (by kernel_rfl) ?_
   simp only [List.take_succ_cons,List.take_zero,List.drop_succ_cons,List.drop_zero]
   repeat (first|go_big_quiet_skip|(refine wpQuiet_step (fun K hK=>?_);go_simp;(try simp (disch:=omega) only [Ed]);(first|(refine hK _ ?_;clear hK K)|(apply Exists.intro;refine ⟨fun _=>?_,hK _ ?_⟩;(first|with_reducible exact Calls.later (HD.out.ad _)|with_reducible exact Calls.later (HS.out _));clear hK K))))
   clear k0 k1 k2 k3 k4 k5
   refine wpQuiet_nil ?_
   intro W7 bD
   have J1:=Lib.hid (J1.out.on bD)
   have J2:=Lib.hid (J2.out.on bD)
   have J3:=Lib.hid (J3.out.on bD)
   have HB:=Lib.hid (chain HB.out bD (Nat.le_refl _))
   clear bD
   obtain ⟨c0,c1,c2,c3,c4,c5⟩:=J3.out.bC
   have H2:=J3
   go_wp2
   refine aC (fun W=>bY W (w.heap.size+1+1) #[.bool r1,.string r2,.string r3]∧Below w.heap.size w W) ⟨by exact bY.jE H2.out _ _ _,aQ HB.out (by omega) _ _ _⟩ ?_
   rintro WR ⟨jk,bD⟩
   obtain ⟨y90,y91,jM,-,-,-⟩:=jk.bC
   exact bodyPost_ret (v:=.agg #[.bool r1,.string r2,.string r3]) (by simp [results,Tryz.results41,go_sem,y90,y91,jM]) rfl ⟨rfl,bD⟩
  ·have hs1:(p1 == q1)=false:=by simp [hs]
   by_cases hl:y≤x
   ·have HS:=Lib.hid (HD.out.more hs hl)
    have hsv:=wz hl
    go_wp2_with fail
    refine (HD.out.sb _).mono ?_;rintro e w7 ⟨he7,bD⟩
    rw [hsv] at he7;subst he7
    clear a0 a1 a2 b0 b1 b2
    have J1:=Lib.hid (J1.out.on bD)
    have J2:=Lib.hid (J2.out.on bD)
    have J3:=Lib.hid (J3.out.on bD)
    have HB:=Lib.hid (chain HB.out bD (Nat.le_refl _))
    clear bD
    obtain ⟨a0,a1,a2,-,-,-⟩:=J1.out.bC
    obtain ⟨b0,b1,b2,-,-,-⟩:=J2.out.bC
    go_wp2_with fail
    refine (HS.out _).mono ?_;rintro e w8 ⟨rfl,bD⟩
    clear a0 a1 a2 b0 b1 b2
    have J1:=Lib.hid (J1.out.on bD)
    have J2:=Lib.hid (J2.out.on bD)
    have J3:=Lib.hid (J3.out.on bD)
    have HB:=Lib.hid (chain HB.out bD (Nat.le_refl _))
    clear bD
    obtain ⟨c0,c1,c2,c3,c4,c5⟩:=J3.out.bC
    have H2:=J3
    go_wp2
    refine aC (fun W=>bY W (w.heap.size+1+1) #[.bool r1,.string r2,.string r3]∧Below w.heap.size w W) ⟨by exact bY.jE H2.out _ _ _,aQ HB.out (by omega) _ _ _⟩ ?_
    rintro WR ⟨jk,bD⟩
    obtain ⟨y90,y91,jM,-,-,-⟩:=jk.bC
    exact bodyPost_ret (v:=.agg #[.bool r1,.string r2,.string r3]) (by simp [results,Tryz.results41,go_sem,y90,y91,jM]) rfl ⟨rfl,bD⟩
   ·have HS:=Lib.hid (HD.out.less hs (by omega))
    have hsv:=He (show x<y by omega)
    have hsw:=wz (show x≤y by omega)
    go_wp2_with fail
    refine (HD.out.sb _).mono ?_;rintro e w7 ⟨he7,bD⟩
    rw [hsv] at he7;subst he7
    clear a0 a1 a2 b0 b1 b2
    have J1:=Lib.hid (J1.out.on bD)
    have J2:=Lib.hid (J2.out.on bD)
    have J3:=Lib.hid (J3.out.on bD)
    have HB:=Lib.hid (chain HB.out bD (Nat.le_refl _))
    clear bD
    go_wp2_with fail
    refine (HD.out.sc _).mono ?_;rintro e w8 ⟨he8,bD⟩
    rw [hsw] at he8;subst he8
    have J1:=Lib.hid (J1.out.on bD)
    have J2:=Lib.hid (J2.out.on bD)
    have J3:=Lib.hid (J3.out.on bD)
    have HB:=Lib.hid (chain HB.out bD (Nat.le_refl _))
    clear bD
    obtain ⟨a0,a1,a2,-,-,-⟩:=J1.out.bC
    obtain ⟨b0,b1,b2,-,-,-⟩:=J2.out.bC
    go_wp2_with fail
    refine (HS.out _).mono ?_;rintro e w9 ⟨rfl,bD⟩
    clear a0 a1 a2 b0 b1 b2
    have J1:=Lib.hid (J1.out.on bD)
    have J2:=Lib.hid (J2.out.on bD)
    have J3:=Lib.hid (J3.out.on bD)
    have HB:=Lib.hid (chain HB.out bD (Nat.le_refl _))
    clear bD
    obtain ⟨c0,c1,c2,c3,c4,c5⟩:=J3.out.bC
    have H2:=J3
    go_wp2
    refine aC (fun W=>bY W (w.heap.size+1+1) #[.bool r1,.string r2,.string r3]∧Below w.heap.size w W) ⟨by exact bY.jE H2.out _ _ _,aQ HB.out (by omega) _ _ _⟩ ?_
    rintro WR ⟨jk,bD⟩
    obtain ⟨y90,y91,jM,-,-,-⟩:=jk.bC
    exact bodyPost_ret (v:=.agg #[.bool r1,.string r2,.string r3]) (by simp [results,Tryz.results41,go_sem,y90,y91,jM]) rfl ⟨rfl,bD⟩
 ·have hne:(p3.toList == q3.toList)=false:=Pj h3
  have MX:=Lib.hid (HD.out.mx h3)
  have MY:=Lib.hid (HD.out.my h3)
  have MD:=Lib.hid (HD.out.md h3)
  go_wp2_with fail
  clear a0 a1 a2 b0 b1 b2
  obtain ⟨k0,k1,k2⟩:=J1.out.gX
  obtain ⟨k3,k4,k5⟩:=J2.out.gX
  refine bU (by kernel_rfl) (by kernel_rfl) ?_
  repeat (first|go_big_quiet_skip|(refine wpQuiet_step (fun K hK=>?_);go_simp;(try simp (disch:=omega) only [Ed]);(first|(refine hK _ ?_;clear hK K)|(apply Exists.intro;refine ⟨fun _=>?_,hK _ ?_⟩;(first|with_reducible exact Calls.later (HD.out.dp _)|with_reducible exact Calls.later (HD.out.dq _)|with_reducible exact Calls.later (MX.out _)|with_reducible exact Calls.later (MY.out _));clear hK K))))
  clear k0 k1 k2 k3 k4 k5
  refine wpQuiet_nil ?_
  intro W2 bD
  have J1:=Lib.hid (J1.out.on bD)
  have J2:=Lib.hid (J2.out.on bD)
  have J3:=Lib.hid (J3.out.on bD)
  have HB:=Lib.hid (chain HB.out bD (Nat.le_refl _))
  clear bD
  go_wp2_with fail
  obtain ⟨k0,k1,k2⟩:=J1.out.gX
  obtain ⟨k3,k4,k5⟩:=J2.out.gX
  refine bU (by kernel_rfl) (by kernel_rfl) ?_
  repeat (first|go_big_quiet_skip|(refine wpQuiet_step (fun K hK=>?_);go_simp;(try simp (disch:=omega) only [Ed]);(first|(refine hK _ ?_;clear hK K)|(apply Exists.intro;refine ⟨fun _=>?_,hK _ ?_⟩;(first|with_reducible exact Calls.later (HD.out.dp _)|with_reducible exact Calls.later (HD.out.dq _)|with_reducible exact Calls.later (MD.out _));clear hK K))))
  clear k0 k1 k2 k3 k4 k5
  refine wpQuiet_nil ?_
  intro W3 bD
  have J1:=Lib.hid (J1.out.on bD)
  have J2:=Lib.hid (J2.out.on bD)
  have J3:=Lib.hid (J3.out.on bD)
  have HB:=Lib.hid (chain HB.out bD (Nat.le_refl _))
  clear bD
  obtain ⟨a0,a1,a2,-,-,-⟩:=J1.out.bC
  obtain ⟨b0,b1,b2,-,-,-⟩:=J2.out.bC
  by_cases hs:p1=q1
  ·subst hs
   have HS:=Lib.hid (HD.out.same rfl)
   go_wp2_with fail
   clear a0 a1 a2 b0 b1 b2
   obtain ⟨k0,k1,k2⟩:=J1.out.gX
   obtain ⟨k3,k4,k5⟩:=J2.out.gX
   refine iC 7 (by kernel_rfl) (by kernel_rfl) ?_
   simp only [List.take_succ_cons,List.take_zero,List.drop_succ_cons,List.drop_zero]
   repeat (first|go_big_quiet_skip|(refine wpQuiet_step (fun K hK=>?_);go_simp;(try simp (disch:=omega) only [Ed]);(first|(refine hK _ ?_;clear hK K)|(apply Exists.intro;refine ⟨fun _=>?_,hK _ ?_⟩;(first|with_reducible exact Calls.later (HD.out.ad _)|with_reducible exact Calls.later (HS.out _));clear hK K))))
   clear k0 k1 k2 k3 k4 k5
   refine wpQuiet_nil ?_
   intro W7 bD
   have J1:=Lib.hid (J1.out.on bD)
   have J2:=Lib.hid (J2.out.on bD)
   have J3:=Lib.hid (J3.out.on bD)
   have HB:=Lib.hid (chain HB.out bD (Nat.le_refl _))
   clear bD
   obtain ⟨c0,c1,c2,c3,c4,c5⟩:=J3.out.bC
   have H2:=J3
   go_wp2
   refine aC (fun W=>bY W (w.heap.size+1+1) #[.bool r1,.string r2,.string r3]∧Below w.heap.size w W) ⟨by exact bY.jE H2.out _ _ _,aQ HB.out (by omega) _ _ _⟩ ?_
   rintro WR ⟨jk,bD⟩
   obtain ⟨y90,y91,jM,-,-,-⟩:=jk.bC
   exact bodyPost_ret (v:=.agg #[.bool r1,.string r2,.string r3]) (by simp [results,Tryz.results41,go_sem,y90,y91,jM]) rfl ⟨rfl,bD⟩
  ·have hs1:(p1 == q1)=false:=by simp [hs]
   by_cases hl:y≤x
   ·have HS:=Lib.hid (HD.out.more hs hl)
    have hsv:=wz hl
    go_wp2_with fail
    refine (HD.out.sb _).mono ?_;rintro e w7 ⟨he7,bD⟩
    rw [hsv] at he7;subst he7
    clear a0 a1 a2 b0 b1 b2
    have J1:=Lib.hid (J1.out.on bD)
    have J2:=Lib.hid (J2.out.on bD)
    have J3:=Lib.hid (J3.out.on bD)
    have HB:=Lib.hid (chain HB.out bD (Nat.le_refl _))
    clear bD
    obtain ⟨a0,a1,a2,-,-,-⟩:=J1.out.bC
    obtain ⟨b0,b1,b2,-,-,-⟩:=J2.out.bC
    go_wp2_with fail
    refine (HS.out _).mono ?_;rintro e w8 ⟨rfl,bD⟩
    clear a0 a1 a2 b0 b1 b2
    have J1:=Lib.hid (J1.out.on bD)
    have J2:=Lib.hid (J2.out.on bD)
    have J3:=Lib.hid (J3.out.on bD)
    have HB:=Lib.hid (chain HB.out bD (Nat.le_refl _))
    clear bD
    obtain ⟨c0,c1,c2,c3,c4,c5⟩:=J3.out.bC
    have H2:=J3
    go_wp2
    refine aC (fun W=>bY W (w.heap.size+1+1) #[.bool r1,.string r2,.string r3]∧Below w.heap.size w W) ⟨by exact bY.jE H2.out _ _ _,aQ HB.out (by omega) _ _ _⟩ ?_
    rintro WR ⟨jk,bD⟩
    obtain ⟨y90,y91,jM,-,-,-⟩:=jk.bC
    exact bodyPost_ret (v:=.agg #[.bool r1,.string r2,.string r3]) (by simp [results,Tryz.results41,go_sem,y90,y91,jM]) rfl ⟨rfl,bD⟩
   ·have HS:=Lib.hid (HD.out.less hs (by omega))
    have hsv:=He (show x<y by omega)
    have hsw:=wz (show x≤y by omega)
    go_wp2_with fail
    refine (HD.out.sb _).mono ?_;rintro e w7 ⟨he7,bD⟩
    rw [hsv] at he7;subst he7
    clear a0 a1 a2 b0 b1 b2
    have J1:=Lib.hid (J1.out.on bD)
    have J2:=Lib.hid (J2.out.on bD)
    have J3:=Lib.hid (J3.out.on bD)
    have HB:=Lib.hid (chain HB.out bD (Nat.le_refl _))
    clear bD
    go_wp2_with fail
    refine (HD.out.sc _).mono ?_;rintro e w8 ⟨he8,bD⟩
    rw [hsw] at he8;subst he8
    have J1:=Lib.hid (J1.out.on bD)
    have J2:=Lib.hid (J2.out.on bD)
    have J3:=Lib.hid (J3.out.on bD)
    have HB:=Lib.hid (chain HB.out bD (Nat.le_refl _))
    clear bD
    obtain ⟨a0,a1,a2,-,-,-⟩:=J1.out.bC
    obtain ⟨b0,b1,b2,-,-,-⟩:=J2.out.bC
    go_wp2_with fail
    refine (HS.out _).mono ?_;rintro e w9 ⟨rfl,bD⟩
    clear a0 a1 a2 b0 b1 b2
    have J1:=Lib.hid (J1.out.on bD)
    have J2:=Lib.hid (J2.out.on bD)
    have J3:=Lib.hid (J3.out.on bD)
    have HB:=Lib.hid (chain HB.out bD (Nat.le_refl _))
    clear bD
    obtain ⟨c0,c1,c2,c3,c4,c5⟩:=J3.out.bC
    have H2:=J3
    go_wp2
    refine aC (fun W=>bY W (w.heap.size+1+1) #[.bool r1,.string r2,.string r3]∧Below w.heap.size w W) ⟨by exact bY.jE H2.out _ _ _,aQ HB.out (by omega) _ _ _⟩ ?_
    rintro WR ⟨jk,bD⟩
    obtain ⟨y90,y91,jM,-,-,-⟩:=jk.bC
    exact bodyPost_ret (v:=.agg #[.bool r1,.string r2,.string r3]) (by simp [results,Tryz.results41,go_sem,y90,y91,jM]) rfl ⟨rfl,bD⟩
theorem YO (n1:Bool) (s1 d1:ByteArray) (n2:Bool) (s2 d2:ByteArray) (w:World) (h1:s1.size+d1.size≤268435456) (h2:s2.size+d2.size≤268435456) :
  Calls Tryz.prog 17 #[.agg #[.bool n1,.string s1,.string d1],.agg #[.bool n2,.string s2,.string d2]] w fun e w'=>e = .returned (rv (rq n1 s1 d1+rq n2 s2 d2))∧Below w.heap.size w w':=by
 have SS:=jx (fun w=>iw n1 s1 d1 w jb jb)
 have HC2:=jx (fun w=>iw n2 s2 d2 w jb jb)
 have Et:=jx (fun w=>Ac (rq n1 s1 d1) (rq n2 s2 d2) _ _ w (vI n1 s1 d1) (vI n2 s2 d2) jb)
 generalize rq n1 s1 d1=p at *
 generalize rq n2 s2 d2=q at *
 unfold rv
 generalize rn (p+q)=r1 at *
 generalize rs (p+q)=r2 at *
 generalize rd (p+q)=r3 at *
 generalize rn p=p1 at *
 generalize rs p=p2 at *
 generalize rd p=p3 at *
 generalize rn q=q1 at *
 generalize rs q=q2 at *
 generalize rd q=q3 at *
 go_enter Tryz.func17,Tryz.ntmps17
 go_wp2_with fail
 refine dU (fun W=>bY W w.heap.size #[.bool n1,.string s1,.string d1]∧bY W (w.heap.size+1) #[.bool n2,.string s2,.string d2]∧bY W (w.heap.size+1+1) #[.bool false,.string ⟨#[]⟩,.string ⟨#[]⟩]∧Below w.heap.size w W) (ql w _ _ _ _ _ _) ?_
 rintro W ⟨H1,H2,H3,HB⟩
 obtain ⟨k0,k1,k2⟩:=H1.gX
 obtain ⟨k3,k4,k5⟩:=H2.gX
 refine iC 5 (by kernel_rfl) (by kernel_rfl) ?_
 simp only [List.take_succ_cons,List.take_zero,List.drop_succ_cons,List.drop_zero]
 repeat (first|go_big_quiet_skip|(refine wpQuiet_step (fun K hK=>?_);go_simp;(try simp (disch:=omega) only [Ed]);(first|(refine hK _ ?_;clear hK K)|(apply Exists.intro;refine ⟨fun _=>?_,hK _ ?_⟩;(first|with_reducible exact Calls.later (SS.out _)|with_reducible exact Calls.later (HC2.out _)|with_reducible exact Calls.later (Et.out _));clear hK K))))
 clear k0 k1 k2 k3 k4 k5
 refine wpQuiet_nil ?_
 intro W5 hb5
 have H2:=jx (H3.on hb5)
 have HB:=jx (chain HB hb5 jp)
 obtain ⟨a0,a1,a2,a3,a4,a5⟩:=H2.out.bC
 clear hb5 H3 H1
 go_wp2
 refine aC (fun W=>bY W (w.heap.size+1+1) #[.bool r1,.string r2,.string r3]∧Below w.heap.size w W) ⟨by exact bY.jE H2.out _ _ _,aQ HB.out jb _ _ _⟩ ?_
 rintro WR ⟨jk,bD⟩
 obtain ⟨y90,y91,jM,-,-,-⟩:=jk.bC
 exact bodyPost_ret (v:=.agg #[.bool r1,.string r2,.string r3]) (by simp [results,Tryz.results17,go_sem,y90,y91,jM]) rfl ⟨rfl,bD⟩
theorem WO (q:Rat) (w:World) :
  Calls Tryz.prog 42 #[.agg #[.bool (rn q),.string (rs q),.string (rd q)]] w fun e w'=>e = .returned (.agg #[.bool (rn (-q)),.string (rs (-q)),.string (rd (-q))])∧Below w.heap.size w w':=by
 by_cases h:q=0
 ·subst h
  rw [Rat.neg_zero,Ci,Cj,Cm]
  go_enter Tryz.func42,Tryz.ntmps42
  go_wp2
  refine aC (fun W=>bY W (w.heap.size+1) #[.bool false,.string ⟨#[]⟩,.string ⟨#[]⟩]∧Below w.heap.size w W) ⟨by exact (oO _ _ _ _ _).2.1,by exact (oO w _ _ _ _).2.2⟩ ?_
  rintro WR ⟨jk,bD⟩
  obtain ⟨y90,y91,jM,-,-,-⟩:=jk.bC
  exact bodyPost_ret (v:=.agg #[.bool false,.string ⟨#[]⟩,.string ⟨#[]⟩]) (by simp [results,Tryz.results42,go_sem,y90,y91,jM]) rfl ⟨rfl,bD⟩
 ·rw [akV (fun e=>h (nO.mp e)),akW,akX]
  obtain ⟨h1,h2⟩:=NC (x:=nm q) (Nat.pos_of_ne_zero fun e=>h (nO.mp e))
  have e:rs q=bn (nm q):=rfl
  rw [e]
  generalize bn (nm q)=s at *
  generalize rd q=d at *
  generalize rn q=n at *
  clear h e
  cases n
  ·go_enter Tryz.func42,Tryz.ntmps42
   go_wp2
   refine aC (fun W=>bY W (w.heap.size+1) #[.bool true,.string s,.string d]∧Below w.heap.size w W) ⟨by exact (oO _ _ _ _ _).2.1,by exact (oO w _ _ _ _).2.2⟩ ?_
   rintro WR ⟨jk,bD⟩
   obtain ⟨y90,y91,jM,-,-,-⟩:=jk.bC
   exact bodyPost_ret (v:=.agg #[.bool true,.string s,.string d]) (by simp [results,Tryz.results42,go_sem,y90,y91,jM]) rfl ⟨rfl,bD⟩
  ·go_enter Tryz.func42,Tryz.ntmps42
   go_wp2
   refine aC (fun W=>bY W (w.heap.size+1) #[.bool false,.string s,.string d]∧Below w.heap.size w W) ⟨by exact (oO _ _ _ _ _).2.1,by exact (oO w _ _ _ _).2.2⟩ ?_
   rintro WR ⟨jk,bD⟩
   obtain ⟨y90,y91,jM,-,-,-⟩:=jk.bC
   exact bodyPost_ret (v:=.agg #[.bool false,.string s,.string d]) (by simp [results,Tryz.results42,go_sem,y90,y91,jM]) rfl ⟨rfl,bD⟩
theorem PX (n1:Bool) (s1 d1:ByteArray) (n2:Bool) (s2 d2:ByteArray) (w:World) (h1:s1.size+d1.size≤268435456) (h2:s2.size+d2.size≤268435456) :
  Calls Tryz.prog 18 #[.agg #[.bool n1,.string s1,.string d1],.agg #[.bool n2,.string s2,.string d2]] w fun e w'=>e = .returned (rv (rq n1 s1 d1 - rq n2 s2 d2))∧Below w.heap.size w w':=by
 have SS:=jx (fun w=>iw n1 s1 d1 w jb jb)
 have HC2:=jx (fun w=>iw n2 s2 d2 w jb jb)
 have HN:=jx (fun w=>WO (rq n2 s2 d2) w)
 have Et:=jx (fun w=>Ac (rq n1 s1 d1) (-rq n2 s2 d2) _ _ w (vI n1 s1 d1) (vI n2 s2 d2).neg jb)
 rw [← Rat.sub_eq_add_neg] at Et
 generalize rq n1 s1 d1=p at *
 generalize rq n2 s2 d2=q at *
 unfold rv
 generalize rn (p - q)=r1 at *
 generalize rs (p - q)=r2 at *
 generalize rd (p - q)=r3 at *
 generalize rn (-q)=o1 at *
 generalize rs (-q)=o2 at *
 generalize rd (-q)=o3 at *
 generalize rn p=p1 at *
 generalize rs p=p2 at *
 generalize rd p=p3 at *
 generalize rn q=q1 at *
 generalize rs q=q2 at *
 generalize rd q=q3 at *
 go_enter Tryz.func18,Tryz.ntmps18
 go_wp2_with fail
 refine dU (fun W=>bY W w.heap.size #[.bool n1,.string s1,.string d1]∧bY W (w.heap.size+1) #[.bool n2,.string s2,.string d2]∧bY W (w.heap.size+1+1) #[.bool false,.string ⟨#[]⟩,.string ⟨#[]⟩]∧Below w.heap.size w W) (ql w _ _ _ _ _ _) ?_
 rintro W ⟨H1,H2,H3,HB⟩
 obtain ⟨k0,k1,k2⟩:=H1.gX
 obtain ⟨k3,k4,k5⟩:=H2.gX
 refine iC 6 (by kernel_rfl) (by kernel_rfl) ?_
 simp only [List.take_succ_cons,List.take_zero,List.drop_succ_cons,List.drop_zero]
 repeat (first|go_big_quiet_skip|(refine wpQuiet_step (fun K hK=>?_);go_simp;(try simp (disch:=omega) only [Ed]);(first|(refine hK _ ?_;clear hK K)|(apply Exists.intro;refine ⟨fun _=>?_,hK _ ?_⟩;(first|with_reducible exact Calls.later (SS.out _)|with_reducible exact Calls.later (HC2.out _)|with_reducible exact Calls.later (HN.out _)|with_reducible exact Calls.later (Et.out _));clear hK K))))
 clear k0 k1 k2 k3 k4 k5
 refine wpQuiet_nil ?_
 intro W5 hb5
 have H2:=jx (H3.on hb5)
 have HB:=jx (chain HB hb5 jp)
 obtain ⟨a0,a1,a2,a3,a4,a5⟩:=H2.out.bC
 clear hb5 H3 H1
 go_wp2
 refine aC (fun W=>bY W (w.heap.size+1+1) #[.bool r1,.string r2,.string r3]∧Below w.heap.size w W) ⟨by exact bY.jE H2.out _ _ _,aQ HB.out jb _ _ _⟩ ?_
 rintro WR ⟨jk,bD⟩
 obtain ⟨y90,y91,jM,-,-,-⟩:=jk.bC
 exact bodyPost_ret (v:=.agg #[.bool r1,.string r2,.string r3]) (by simp [results,Tryz.results18,go_sem,y90,y91,jM]) rfl ⟨rfl,bD⟩
end Go.Proofs.Ins
