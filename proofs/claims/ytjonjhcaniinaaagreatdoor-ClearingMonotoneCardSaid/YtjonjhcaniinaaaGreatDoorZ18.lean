/- The walks of rational.negate, Subtract and bW.Subtract, Positive. -/
import Derived.Test.YtjonjhcaniinaaaGreatDoorZ10
set_option linter.unusedSimpArgs false
set_option linter.unusedVariables false
set_option maxHeartbeats 8000000
namespace Go.Proofs.Ins
open Go.RowKit
structure aoh (p1:Bool) (p2 p3:ByteArray) (q1:Bool) (q2 q3:ByteArray) (P1 P2 X Y D A:ByteArray) (x y:Nat) (r1:Bool) (r2 r3:ByteArray):Prop where
 dp : ∀ w,Calls Tryz.prog 38 #[.agg #[.bool p1,.string p2,.string p3]] w fun e w'=>e = .returned (.string P1)∧Below w.heap.size w w'
 dq : ∀ w,Calls Tryz.prog 38 #[.agg #[.bool q1,.string q2,.string q3]] w fun e w'=>e = .returned (.string P2)∧Below w.heap.size w w'
 mx:p3≠q3→∀ w,Calls Tryz.prog 37 #[.string p2,.string P2] w fun e w'=>e = .returned (.string X)∧Below w.heap.size w w'
 my:p3≠q3→∀ w,Calls Tryz.prog 37 #[.string q2,.string P1] w fun e w'=>e = .returned (.string Y)∧Below w.heap.size w w'
 md:p3≠q3→∀ w,Calls Tryz.prog 37 #[.string P1,.string P2] w fun e w'=>e = .returned (.string D)∧Below w.heap.size w w'
 ex:p3=q3→X=p2∧Y=q2∧D=P1
 ad : ∀ w,Calls Tryz.prog 77 #[.string X,.string Y] w fun e w'=>e = .returned (.string A)∧Below w.heap.size w w'
 sb : ∀ w,Calls Tryz.prog 78 #[.string X,.string Y] w fun e w'=>e = .returned (Me x y)∧Below w.heap.size w w'
 sc : ∀ w,Calls Tryz.prog 78 #[.string Y,.string X] w fun e w'=>e = .returned (Me y x)∧Below w.heap.size w w'
 same:p1=q1→∀ w,Calls Tryz.prog 47 #[.bool p1,.string A,.string D] w fun e w'=>e = .returned (.agg #[.bool r1,.string r2,.string r3])∧Below w.heap.size w w'
 more:p1≠q1→y≤x→∀ w,Calls Tryz.prog 47 #[.bool p1,.string (bn (x - y)),.string D] w fun e w'=>e = .returned (.agg #[.bool r1,.string r2,.string r3])∧Below w.heap.size w w'
 less:p1≠q1→x<y→∀ w,Calls Tryz.prog 47 #[.bool q1,.string (bn (y - x)),.string D] w fun e w'=>e = .returned (.agg #[.bool r1,.string r2,.string r3])∧Below w.heap.size w w'
def Jy (p q:Rat):Nat:=if rd p=rd q then nm p else nm p*q.den
def Jz (p q:Rat):Nat:=if rd p=rd q then nm q else nm q*p.den
def RJ (p q:Rat):Nat:=if rd p=rd q then p.den else p.den*q.den
theorem Yw {p q:Rat} (h:rd p=rd q):p.den=q.den:=by rw [← aap p,← aap q,h]
theorem Ud (p q:Rat):p+q=mkRat (mQ (rn p) (Jy p q)+mQ (rn q) (Jz p q)) (RJ p q):=by
 unfold Jy Jz RJ
 by_cases h:rd p=rd q
 ·rw [if_pos h,if_pos h,if_pos h];exact OI (Yw h)
 ·rw [if_neg h,if_neg h,if_neg h];exact SE p q
theorem ae4 (p q:Rat) (k l:Nat) (hp:Sm k p) (hq:Sm l q) (hkl:k+l+1≤1073741824) :
  aoh (rn p) (rs p) (rd p) (rn q) (rs q) (rd q) (bn p.den) (bn q.den) (bn (Jy p q)) (bn (Jz p q)) (bn (RJ p q)) (bn (Jy p q+Jz p q)) (Jy p q) (Jz p q) (rn (p+q)) (rs (p+q)) (rd (p+q)):=by
 have one : ∀ a b:Nat,(256:Nat) ^ a≤256 ^ (a+b):=fun a b=>Nat.pow_le_pow_right (by omega) (by omega)
 have kx:Jy p q<256 ^ (k+l):=by
  unfold Jy;split
  ·exact Nat.lt_of_lt_of_le hp.1 (one k l)
  ·exact iI hp.1 hq.2
 have ky:Jz p q<256 ^ (k+l):=by
  unfold Jz;split
  ·rw [Nat.add_comm];exact Nat.lt_of_lt_of_le hq.1 (one l k)
  ·rw [Nat.add_comm];exact iI hq.1 hp.2
 have kd:RJ p q<256 ^ (k+l):=by
  unfold RJ;split
  ·exact Nat.lt_of_lt_of_le hp.2 (one k l)
  ·exact iI hp.2 hq.2
 have d0:0<RJ p q:=by
  unfold RJ;split
  ·exact p.den_pos
  ·exact Nat.mul_pos p.den_pos q.den_pos
 have e1:(256:Nat) ^ (k+l+1)=256*256 ^ (k+l):=by rw [Nat.pow_succ,Nat.mul_comm]
 have nx:=jS kx (by omega)
 have ny:=jS ky (by omega)
 refine ⟨fun w=>rP p w,fun w=>rP q w,fun h w=>?_,fun h w=>?_,fun h w=>?_,fun h=>?_,fun w=>?_,fun w=>?_,fun w=>?_,fun he w=>?_,fun he hl w=>?_,fun he hl w=>?_⟩
 ·have:=lV (nm p) q.den k l w hp.1 hq.2 (by omega) (by omega)
  unfold Jy;rw [if_neg h];exact this
 ·have:=lV (nm q) p.den l k w hq.1 hp.2 (by omega) (by omega)
  unfold Jz;rw [if_neg h];exact this
 ·have:=lV p.den q.den k l w hp.2 hq.2 (by omega) (by omega)
  unfold RJ;rw [if_neg h];exact this
 ·unfold Jy Jz RJ;rw [if_pos h,if_pos h,if_pos h];exact ⟨rfl,rfl,rfl⟩
 ·have:=add_any (bn (Jy p q)) (bn (Jz p q)) w nx ny
  rw [bJ,bJ] at this;exact this
 ·have:=sO (bn (Jy p q)) (bn (Jz p q)) w nx ny
  rw [bJ,bJ] at this;exact this
 ·have:=sO (bn (Jz p q)) (bn (Jy p q)) w ny nx
  rw [bJ,bJ] at this;exact this
 ·have:=Ar (rn p) (Jy p q+Jz p q) (RJ p q) (k+l+1) (k+l) w (by omega) kd (by omega) (by omega) d0
  rw [show fr (rn p) (Jy p q+Jz p q) (RJ p q)=p+q by rw [Ud,← he,Ae];rfl] at this;exact this
 ·have:=Ar (rn p) (Jy p q - Jz p q) (RJ p q) (k+l+1) (k+l) w (by omega) kd (by omega) (by omega) d0
  rw [show fr (rn p) (Jy p q - Jz p q) (RJ p q)=p+q by rw [Ud,pI he hl];rfl] at this;exact this
 ·have:=Ar (rn q) (Jz p q - Jy p q) (RJ p q) (k+l+1) (k+l) w (by omega) kd (by omega) (by omega) d0
  rw [show fr (rn q) (Jz p q - Jy p q) (RJ p q)=p+q by rw [Ud,Int.add_comm,pI (Ne.symm he) (by omega)];rfl] at this;exact this
set_option maxRecDepth 100000 in
theorem yF (p q:Rat) (k l:Nat) (w:World) (hp:Sm k p) (hq:Sm l q) (hkl:k+l+1≤1073741824) :
  Calls Tryz.prog 41 #[.agg #[.bool (rn p),.string (rs p),.string (rd p)],.agg #[.bool (rn q),.string (rs q),.string (rd q)]] w fun e w'=>e = .returned (.agg #[.bool (rn (p+q)),.string (rs (p+q)),.string (rd (p+q))])∧Below w.heap.size w w':=by
 have CS:=ae4 p q k l hp hq hkl
 clear hp hq hkl
 generalize bn (Jy p q+Jz p q)=A at *
 generalize bn (Jy p q)=X at *
 generalize bn (Jz p q)=Y at *
 generalize bn (RJ p q)=D at *
 generalize Jy p q=x at *
 generalize Jz p q=y at *
 generalize bn p.den=P1 at *
 generalize bn q.den=P2 at *
 generalize rn (p+q)=r1 at *
 generalize rs (p+q)=r2 at *
 generalize rd (p+q)=r3 at *
 generalize rn p=p1 at *
 generalize rs p=p2 at *
 generalize rd p=p3 at *
 generalize rn q=q1 at *
 generalize rs q=q2 at *
 generalize rd q=q3 at *
 have HD:=Lib.hid CS
 clear CS
 go_enter Tryz.func41,Tryz.ntmps41
 go_wp2_with fail
 refine dI (fun W=>bU W w.heap.size #[.bool p1,.string p2,.string p3]∧bU W (w.heap.size+1) #[.bool q1,.string q2,.string q3]∧bU W (w.heap.size+1+1) #[.bool false,.string ⟨#[]⟩,.string ⟨#[]⟩]∧Below w.heap.size w W) (nV w _ _ _ _ _ _) ?_
 rintro W ⟨H1,H2,H3,HB⟩
 obtain ⟨k0,k1,k2⟩:=H1.fO
 obtain ⟨k3,k4,k5⟩:=H2.fO
 refine bK (by kernel_rfl) (by kernel_rfl) ?_
 repeat (first|go_big_quiet_skip|(refine wpQuiet_step (fun K hK=>?_);go_simp;(try simp (disch:=omega) only [uP]);(first|(refine hK _ ?_;clear hK K)|(apply Exists.intro;refine ⟨fun _=>?_,hK _ ?_⟩;(fail);clear hK K))))
 clear k0 k1 k2 k3 k4 k5
 refine wpQuiet_nil ?_
 intro W1 aZ
 have J1:=Lib.hid (H1.on aZ)
 have J2:=Lib.hid (H2.on aZ)
 have J3:=Lib.hid (H3.on aZ)
 have HB:=Lib.hid (chain HB aZ (Nat.le_refl _))
 clear aZ
 obtain ⟨a0,a1,a2,-,-,-⟩:=J1.out.aY
 obtain ⟨b0,b1,b2,-,-,-⟩:=J2.out.aY
 by_cases h3:p3=q3
 ·subst h3
  obtain ⟨hX,hY,hD⟩:=HD.out.ex rfl
  subst hX hY hD
  go_wp2_with fail
  refine (HD.out.dp _).mono ?_;rintro e w3 ⟨rfl,aZ⟩
  clear a0 a1 a2 b0 b1 b2
  have J1:=Lib.hid (J1.out.on aZ)
  have J2:=Lib.hid (J2.out.on aZ)
  have J3:=Lib.hid (J3.out.on aZ)
  have HB:=Lib.hid (chain HB.out aZ (Nat.le_refl _))
  clear aZ
  obtain ⟨a0,a1,a2,-,-,-⟩:=J1.out.aY
  obtain ⟨b0,b1,b2,-,-,-⟩:=J2.out.aY
  by_cases hs:p1=q1
  ·subst hs
   have HS:=Lib.hid (HD.out.same rfl)
   go_wp2_with fail
   clear a0 a1 a2 b0 b1 b2
   obtain ⟨k0,k1,k2⟩:=J1.out.fO
   obtain ⟨k3,k4,k5⟩:=J2.out.fO
   refine fV 7 (by kernel_rfl) (by kernel_rfl) ?_
   simp only [List.take_succ_cons,List.take_zero,List.drop_succ_cons,List.drop_zero]
   repeat (first|go_big_quiet_skip|(refine wpQuiet_step (fun K hK=>?_);go_simp;(try simp (disch:=omega) only [uP]);(first|(refine hK _ ?_;clear hK K)|(apply Exists.intro;refine ⟨fun _=>?_,hK _ ?_⟩;(first|with_reducible exact Calls.later (HD.out.ad _)|with_reducible exact Calls.later (HS.out _));clear hK K))))
   clear k0 k1 k2 k3 k4 k5
   refine wpQuiet_nil ?_
   intro W7 aZ
   have J1:=Lib.hid (J1.out.on aZ)
   have J2:=Lib.hid (J2.out.on aZ)
   have J3:=Lib.hid (J3.out.on aZ)
   have HB:=Lib.hid (chain HB.out aZ (Nat.le_refl _))
   clear aZ
   obtain ⟨c0,c1,c2,c3,c4,c5⟩:=J3.out.aY
   have H2:=J3
   go_wp2
   refine aB (fun W=>bU W (w.heap.size+1+1) #[.bool r1,.string r2,.string r3]∧Below w.heap.size w W) ⟨by exact bU.jf H2.out _ _ _,aJ HB.out (by omega) _ _ _⟩ ?_
   rintro WR ⟨iU,aZ⟩
   obtain ⟨y90,y91,jo,-,-,-⟩:=iU.aY
   exact bodyPost_ret (v:=.agg #[.bool r1,.string r2,.string r3]) (by simp [results,Tryz.results41,go_sem,y90,y91,jo]) rfl ⟨rfl,aZ⟩
  ·have hs1:(p1 == q1)=false:=by simp [hs]
   by_cases hl:y≤x
   ·have HS:=Lib.hid (HD.out.more hs hl)
    have hsv:=um hl
    go_wp2_with fail
    refine (HD.out.sb _).mono ?_;rintro e w7 ⟨he7,aZ⟩
    rw [hsv] at he7;subst he7
    clear a0 a1 a2 b0 b1 b2
    have J1:=Lib.hid (J1.out.on aZ)
    have J2:=Lib.hid (J2.out.on aZ)
    have J3:=Lib.hid (J3.out.on aZ)
    have HB:=Lib.hid (chain HB.out aZ (Nat.le_refl _))
    clear aZ
    obtain ⟨a0,a1,a2,-,-,-⟩:=J1.out.aY
    obtain ⟨b0,b1,b2,-,-,-⟩:=J2.out.aY
    go_wp2_with fail
    refine (HS.out _).mono ?_;rintro e w8 ⟨rfl,aZ⟩
    clear a0 a1 a2 b0 b1 b2
    have J1:=Lib.hid (J1.out.on aZ)
    have J2:=Lib.hid (J2.out.on aZ)
    have J3:=Lib.hid (J3.out.on aZ)
    have HB:=Lib.hid (chain HB.out aZ (Nat.le_refl _))
    clear aZ
    obtain ⟨c0,c1,c2,c3,c4,c5⟩:=J3.out.aY
    have H2:=J3
    go_wp2
    refine aB (fun W=>bU W (w.heap.size+1+1) #[.bool r1,.string r2,.string r3]∧Below w.heap.size w W) ⟨by exact bU.jf H2.out _ _ _,aJ HB.out (by omega) _ _ _⟩ ?_
    rintro WR ⟨iU,aZ⟩
    obtain ⟨y90,y91,jo,-,-,-⟩:=iU.aY
    exact bodyPost_ret (v:=.agg #[.bool r1,.string r2,.string r3]) (by simp [results,Tryz.results41,go_sem,y90,y91,jo]) rfl ⟨rfl,aZ⟩
   ·have HS:=Lib.hid (HD.out.less hs (by omega))
    have hsv:=EP (show x<y by omega)
    have hsw:=um (show x≤y by omega)
    go_wp2_with fail
    refine (HD.out.sb _).mono ?_;rintro e w7 ⟨he7,aZ⟩
    rw [hsv] at he7;subst he7
    clear a0 a1 a2 b0 b1 b2
    have J1:=Lib.hid (J1.out.on aZ)
    have J2:=Lib.hid (J2.out.on aZ)
    have J3:=Lib.hid (J3.out.on aZ)
    have HB:=Lib.hid (chain HB.out aZ (Nat.le_refl _))
    clear aZ
    go_wp2_with fail
    refine (HD.out.sc _).mono ?_;rintro e w8 ⟨he8,aZ⟩
    rw [hsw] at he8;subst he8
    have J1:=Lib.hid (J1.out.on aZ)
    have J2:=Lib.hid (J2.out.on aZ)
    have J3:=Lib.hid (J3.out.on aZ)
    have HB:=Lib.hid (chain HB.out aZ (Nat.le_refl _))
    clear aZ
    obtain ⟨a0,a1,a2,-,-,-⟩:=J1.out.aY
    obtain ⟨b0,b1,b2,-,-,-⟩:=J2.out.aY
    go_wp2_with fail
    refine (HS.out _).mono ?_;rintro e w9 ⟨rfl,aZ⟩
    clear a0 a1 a2 b0 b1 b2
    have J1:=Lib.hid (J1.out.on aZ)
    have J2:=Lib.hid (J2.out.on aZ)
    have J3:=Lib.hid (J3.out.on aZ)
    have HB:=Lib.hid (chain HB.out aZ (Nat.le_refl _))
    clear aZ
    obtain ⟨c0,c1,c2,c3,c4,c5⟩:=J3.out.aY
    have H2:=J3
    go_wp2
    refine aB (fun W=>bU W (w.heap.size+1+1) #[.bool r1,.string r2,.string r3]∧Below w.heap.size w W) ⟨by exact bU.jf H2.out _ _ _,aJ HB.out (by omega) _ _ _⟩ ?_
    rintro WR ⟨iU,aZ⟩
    obtain ⟨y90,y91,jo,-,-,-⟩:=iU.aY
    exact bodyPost_ret (v:=.agg #[.bool r1,.string r2,.string r3]) (by simp [results,Tryz.results41,go_sem,y90,y91,jo]) rfl ⟨rfl,aZ⟩
 ·have hne:(p3.toList == q3.toList)=false:=MJ h3
  have MX:=Lib.hid (HD.out.mx h3)
  have MY:=Lib.hid (HD.out.my h3)
  have MD:=Lib.hid (HD.out.md h3)
  go_wp2_with fail
  clear a0 a1 a2 b0 b1 b2
  obtain ⟨k0,k1,k2⟩:=J1.out.fO
  obtain ⟨k3,k4,k5⟩:=J2.out.fO
  refine bK (by kernel_rfl) (by kernel_rfl) ?_
  repeat (first|go_big_quiet_skip|(refine wpQuiet_step (fun K hK=>?_);go_simp;(try simp (disch:=omega) only [uP]);(first|(refine hK _ ?_;clear hK K)|(apply Exists.intro;refine ⟨fun _=>?_,hK _ ?_⟩;(first|with_reducible exact Calls.later (HD.out.dp _)|with_reducible exact Calls.later (HD.out.dq _)|with_reducible exact Calls.later (MX.out _)|with_reducible exact Calls.later (MY.out _));clear hK K))))
  clear k0 k1 k2 k3 k4 k5
  refine wpQuiet_nil ?_
  intro W2 aZ
  have J1:=Lib.hid (J1.out.on aZ)
  have J2:=Lib.hid (J2.out.on aZ)
  have J3:=Lib.hid (J3.out.on aZ)
  have HB:=Lib.hid (chain HB.out aZ (Nat.le_refl _))
  clear aZ
  go_wp2_with fail
  obtain ⟨k0,k1,k2⟩:=J1.out.fO
  obtain ⟨k3,k4,k5⟩:=J2.out.fO
  refine bK (by kernel_rfl) (by kernel_rfl) ?_
  repeat (first|go_big_quiet_skip|(refine wpQuiet_step (fun K hK=>?_);go_simp;(try simp (disch:=omega) only [uP]);(first|(refine hK _ ?_;clear hK K)|(apply Exists.intro;refine ⟨fun _=>?_,hK _ ?_⟩;(first|with_reducible exact Calls.later (HD.out.dp _)|with_reducible exact Calls.later (HD.out.dq _)|with_reducible exact Calls.later (MD.out _));clear hK K))))
  clear k0 k1 k2 k3 k4 k5
  refine wpQuiet_nil ?_
  intro W3 aZ
  have J1:=Lib.hid (J1.out.on aZ)
  have J2:=Lib.hid (J2.out.on aZ)
  have J3:=Lib.hid (J3.out.on aZ)
  have HB:=Lib.hid (chain HB.out aZ (Nat.le_refl _))
  clear aZ
  obtain ⟨a0,a1,a2,-,-,-⟩:=J1.out.aY
  obtain ⟨b0,b1,b2,-,-,-⟩:=J2.out.aY
  by_cases hs:p1=q1
  ·subst hs
   have HS:=Lib.hid (HD.out.same rfl)
   go_wp2_with fail
   clear a0 a1 a2 b0 b1 b2
   obtain ⟨k0,k1,k2⟩:=J1.out.fO
   obtain ⟨k3,k4,k5⟩:=J2.out.fO
   refine fV 7 (by kernel_rfl) (by kernel_rfl) ?_
   simp only [List.take_succ_cons,List.take_zero,List.drop_succ_cons,List.drop_zero]
   repeat (first|go_big_quiet_skip|(refine wpQuiet_step (fun K hK=>?_);go_simp;(try simp (disch:=omega) only [uP]);(first|(refine hK _ ?_;clear hK K)|(apply Exists.intro;refine ⟨fun _=>?_,hK _ ?_⟩;(first|with_reducible exact Calls.later (HD.out.ad _)|with_reducible exact Calls.later (HS.out _));clear hK K))))
   clear k0 k1 k2 k3 k4 k5
   refine wpQuiet_nil ?_
   intro W7 aZ
   have J1:=Lib.hid (J1.out.on aZ)
   have J2:=Lib.hid (J2.out.on aZ)
   have J3:=Lib.hid (J3.out.on aZ)
   have HB:=Lib.hid (chain HB.out aZ (Nat.le_refl _))
   clear aZ
   obtain ⟨c0,c1,c2,c3,c4,c5⟩:=J3.out.aY
   have H2:=J3
   go_wp2
   refine aB (fun W=>bU W (w.heap.size+1+1) #[.bool r1,.string r2,.string r3]∧Below w.heap.size w W) ⟨by exact bU.jf H2.out _ _ _,aJ HB.out (by omega) _ _ _⟩ ?_
   rintro WR ⟨iU,aZ⟩
   obtain ⟨y90,y91,jo,-,-,-⟩:=iU.aY
   exact bodyPost_ret (v:=.agg #[.bool r1,.string r2,.string r3]) (by simp [results,Tryz.results41,go_sem,y90,y91,jo]) rfl ⟨rfl,aZ⟩
  ·have hs1:(p1 == q1)=false:=by simp [hs]
   by_cases hl:y≤x
   ·have HS:=Lib.hid (HD.out.more hs hl)
    have hsv:=um hl
    go_wp2_with fail
    refine (HD.out.sb _).mono ?_;rintro e w7 ⟨he7,aZ⟩
    rw [hsv] at he7;subst he7
    clear a0 a1 a2 b0 b1 b2
    have J1:=Lib.hid (J1.out.on aZ)
    have J2:=Lib.hid (J2.out.on aZ)
    have J3:=Lib.hid (J3.out.on aZ)
    have HB:=Lib.hid (chain HB.out aZ (Nat.le_refl _))
    clear aZ
    obtain ⟨a0,a1,a2,-,-,-⟩:=J1.out.aY
    obtain ⟨b0,b1,b2,-,-,-⟩:=J2.out.aY
    go_wp2_with fail
    refine (HS.out _).mono ?_;rintro e w8 ⟨rfl,aZ⟩
    clear a0 a1 a2 b0 b1 b2
    have J1:=Lib.hid (J1.out.on aZ)
    have J2:=Lib.hid (J2.out.on aZ)
    have J3:=Lib.hid (J3.out.on aZ)
    have HB:=Lib.hid (chain HB.out aZ (Nat.le_refl _))
    clear aZ
    obtain ⟨c0,c1,c2,c3,c4,c5⟩:=J3.out.aY
    have H2:=J3
    go_wp2
    refine aB (fun W=>bU W (w.heap.size+1+1) #[.bool r1,.string r2,.string r3]∧Below w.heap.size w W) ⟨by exact bU.jf H2.out _ _ _,aJ HB.out (by omega) _ _ _⟩ ?_
    rintro WR ⟨iU,aZ⟩
    obtain ⟨y90,y91,jo,-,-,-⟩:=iU.aY
    exact bodyPost_ret (v:=.agg #[.bool r1,.string r2,.string r3]) (by simp [results,Tryz.results41,go_sem,y90,y91,jo]) rfl ⟨rfl,aZ⟩
   ·have HS:=Lib.hid (HD.out.less hs (by omega))
    have hsv:=EP (show x<y by omega)
    have hsw:=um (show x≤y by omega)
    go_wp2_with fail
    refine (HD.out.sb _).mono ?_;rintro e w7 ⟨he7,aZ⟩
    rw [hsv] at he7;subst he7
    clear a0 a1 a2 b0 b1 b2
    have J1:=Lib.hid (J1.out.on aZ)
    have J2:=Lib.hid (J2.out.on aZ)
    have J3:=Lib.hid (J3.out.on aZ)
    have HB:=Lib.hid (chain HB.out aZ (Nat.le_refl _))
    clear aZ
    go_wp2_with fail
    refine (HD.out.sc _).mono ?_;rintro e w8 ⟨he8,aZ⟩
    rw [hsw] at he8;subst he8
    have J1:=Lib.hid (J1.out.on aZ)
    have J2:=Lib.hid (J2.out.on aZ)
    have J3:=Lib.hid (J3.out.on aZ)
    have HB:=Lib.hid (chain HB.out aZ (Nat.le_refl _))
    clear aZ
    obtain ⟨a0,a1,a2,-,-,-⟩:=J1.out.aY
    obtain ⟨b0,b1,b2,-,-,-⟩:=J2.out.aY
    go_wp2_with fail
    refine (HS.out _).mono ?_;rintro e w9 ⟨rfl,aZ⟩
    clear a0 a1 a2 b0 b1 b2
    have J1:=Lib.hid (J1.out.on aZ)
    have J2:=Lib.hid (J2.out.on aZ)
    have J3:=Lib.hid (J3.out.on aZ)
    have HB:=Lib.hid (chain HB.out aZ (Nat.le_refl _))
    clear aZ
    obtain ⟨c0,c1,c2,c3,c4,c5⟩:=J3.out.aY
    have H2:=J3
    go_wp2
    refine aB (fun W=>bU W (w.heap.size+1+1) #[.bool r1,.string r2,.string r3]∧Below w.heap.size w W) ⟨by exact bU.jf H2.out _ _ _,aJ HB.out (by omega) _ _ _⟩ ?_
    rintro WR ⟨iU,aZ⟩
    obtain ⟨y90,y91,jo,-,-,-⟩:=iU.aY
    exact bodyPost_ret (v:=.agg #[.bool r1,.string r2,.string r3]) (by simp [results,Tryz.results41,go_sem,y90,y91,jo]) rfl ⟨rfl,aZ⟩
set_option maxRecDepth 100000 in
theorem Wy (n1:Bool) (s1 d1:ByteArray) (n2:Bool) (s2 d2:ByteArray) (w:World) (h1:s1.size+d1.size≤268435456) (h2:s2.size+d2.size≤268435456) :
  Calls Tryz.prog 17 #[.agg #[.bool n1,.string s1,.string d1],.agg #[.bool n2,.string s2,.string d2]] w fun e w'=>e = .returned (rv (rq n1 s1 d1+rq n2 s2 d2))∧Below w.heap.size w w':=by
 have Pn:=Lib.hid (fun w=>fU n1 s1 d1 w (by omega) (by omega))
 have HC2:=Lib.hid (fun w=>fU n2 s2 d2 w (by omega) (by omega))
 have CS:=Lib.hid (fun w=>yF (rq n1 s1 d1) (rq n2 s2 d2) _ _ w (sU n1 s1 d1) (sU n2 s2 d2) (by omega))
 generalize rq n1 s1 d1=p at *
 generalize rq n2 s2 d2=q at *
 unfold rv
 generalize rn (p+q)=r1 at *
 generalize rs (p+q)=r2 at *
 generalize rd (p+q)=r3 at *
 generalize rn p=p1 at *
 generalize rs p=p2 at *
 generalize rd p=p3 at *
 generalize rn q=q1 at *
 generalize rs q=q2 at *
 generalize rd q=q3 at *
 go_enter Tryz.func17,Tryz.ntmps17
 go_wp2_with fail
 refine dI (fun W=>bU W w.heap.size #[.bool n1,.string s1,.string d1]∧bU W (w.heap.size+1) #[.bool n2,.string s2,.string d2]∧bU W (w.heap.size+1+1) #[.bool false,.string ⟨#[]⟩,.string ⟨#[]⟩]∧Below w.heap.size w W) (nV w _ _ _ _ _ _) ?_
 rintro W ⟨H1,H2,H3,HB⟩
 obtain ⟨k0,k1,k2⟩:=H1.fO
 obtain ⟨k3,k4,k5⟩:=H2.fO
 refine fV 5 (by kernel_rfl) (by kernel_rfl) ?_
 simp only [List.take_succ_cons,List.take_zero,List.drop_succ_cons,List.drop_zero]
 repeat (first|go_big_quiet_skip|(refine wpQuiet_step (fun K hK=>?_);go_simp;(try simp (disch:=omega) only [uP]);(first|(refine hK _ ?_;clear hK K)|(apply Exists.intro;refine ⟨fun _=>?_,hK _ ?_⟩;(first|with_reducible exact Calls.later (Pn.out _)|with_reducible exact Calls.later (HC2.out _)|with_reducible exact Calls.later (CS.out _));clear hK K))))
 clear k0 k1 k2 k3 k4 k5
 refine wpQuiet_nil ?_
 intro W5 hb5
 have H2:=Lib.hid (H3.on hb5)
 have HB:=Lib.hid (chain HB hb5 (Nat.le_refl _))
 obtain ⟨a0,a1,a2,a3,a4,a5⟩:=H2.out.aY
 clear hb5 H3 H1
 go_wp2
 refine aB (fun W=>bU W (w.heap.size+1+1) #[.bool r1,.string r2,.string r3]∧Below w.heap.size w W) ⟨by exact bU.jf H2.out _ _ _,aJ HB.out (by omega) _ _ _⟩ ?_
 rintro WR ⟨iU,aZ⟩
 obtain ⟨y90,y91,jo,-,-,-⟩:=iU.aY
 exact bodyPost_ret (v:=.agg #[.bool r1,.string r2,.string r3]) (by simp [results,Tryz.results17,go_sem,y90,y91,jo]) rfl ⟨rfl,aZ⟩
set_option maxRecDepth 100000 in
theorem Ue (q:Rat) (w:World) :
  Calls Tryz.prog 42 #[.agg #[.bool (rn q),.string (rs q),.string (rd q)]] w fun e w'=>e = .returned (.agg #[.bool (rn (-q)),.string (rs (-q)),.string (rd (-q))])∧Below w.heap.size w w':=by
 by_cases h:q=0
 ·subst h
  rw [Rat.neg_zero,zZ,Aa,Ac]
  go_enter Tryz.func42,Tryz.ntmps42
  go_wp2
  refine aB (fun W=>bU W (w.heap.size+1) #[.bool false,.string ⟨#[]⟩,.string ⟨#[]⟩]∧Below w.heap.size w W) ⟨by exact (mY _ _ _ _ _).2.1,by exact (mY w _ _ _ _).2.2⟩ ?_
  rintro WR ⟨iU,aZ⟩
  obtain ⟨y90,y91,jo,-,-,-⟩:=iU.aY
  exact bodyPost_ret (v:=.agg #[.bool false,.string ⟨#[]⟩,.string ⟨#[]⟩]) (by simp [results,Tryz.results42,go_sem,y90,y91,jo]) rfl ⟨rfl,aZ⟩
 ·rw [ah5 (fun e=>h (lT.mp e)),ah6,ah7]
  obtain ⟨h1,h2⟩:=Kr (x:=nm q) (Nat.pos_of_ne_zero fun e=>h (lT.mp e))
  have e:rs q=bn (nm q):=rfl
  rw [e]
  generalize bn (nm q)=s at *
  generalize rd q=d at *
  generalize rn q=n at *
  clear h e
  cases n
  ·go_enter Tryz.func42,Tryz.ntmps42
   go_wp2
   refine aB (fun W=>bU W (w.heap.size+1) #[.bool true,.string s,.string d]∧Below w.heap.size w W) ⟨by exact (mY _ _ _ _ _).2.1,by exact (mY w _ _ _ _).2.2⟩ ?_
   rintro WR ⟨iU,aZ⟩
   obtain ⟨y90,y91,jo,-,-,-⟩:=iU.aY
   exact bodyPost_ret (v:=.agg #[.bool true,.string s,.string d]) (by simp [results,Tryz.results42,go_sem,y90,y91,jo]) rfl ⟨rfl,aZ⟩
  ·go_enter Tryz.func42,Tryz.ntmps42
   go_wp2
   refine aB (fun W=>bU W (w.heap.size+1) #[.bool false,.string s,.string d]∧Below w.heap.size w W) ⟨by exact (mY _ _ _ _ _).2.1,by exact (mY w _ _ _ _).2.2⟩ ?_
   rintro WR ⟨iU,aZ⟩
   obtain ⟨y90,y91,jo,-,-,-⟩:=iU.aY
   exact bodyPost_ret (v:=.agg #[.bool false,.string s,.string d]) (by simp [results,Tryz.results42,go_sem,y90,y91,jo]) rfl ⟨rfl,aZ⟩
set_option maxRecDepth 100000 in
theorem Nu (n1:Bool) (s1 d1:ByteArray) (n2:Bool) (s2 d2:ByteArray) (w:World) (h1:s1.size+d1.size≤268435456) (h2:s2.size+d2.size≤268435456) :
  Calls Tryz.prog 18 #[.agg #[.bool n1,.string s1,.string d1],.agg #[.bool n2,.string s2,.string d2]] w fun e w'=>e = .returned (rv (rq n1 s1 d1 - rq n2 s2 d2))∧Below w.heap.size w w':=by
 have Pn:=Lib.hid (fun w=>fU n1 s1 d1 w (by omega) (by omega))
 have HC2:=Lib.hid (fun w=>fU n2 s2 d2 w (by omega) (by omega))
 have HN:=Lib.hid (fun w=>Ue (rq n2 s2 d2) w)
 have CS:=Lib.hid (fun w=>yF (rq n1 s1 d1) (-rq n2 s2 d2) _ _ w (sU n1 s1 d1) (sU n2 s2 d2).neg (by omega))
 rw [← Rat.sub_eq_add_neg] at CS
 generalize rq n1 s1 d1=p at *
 generalize rq n2 s2 d2=q at *
 unfold rv
 generalize rn (p - q)=r1 at *
 generalize rs (p - q)=r2 at *
 generalize rd (p - q)=r3 at *
 generalize rn (-q)=o1 at *
 generalize rs (-q)=o2 at *
 generalize rd (-q)=o3 at *
 generalize rn p=p1 at *
 generalize rs p=p2 at *
 generalize rd p=p3 at *
 generalize rn q=q1 at *
 generalize rs q=q2 at *
 generalize rd q=q3 at *
 go_enter Tryz.func18,Tryz.ntmps18
 go_wp2_with fail
 refine dI (fun W=>bU W w.heap.size #[.bool n1,.string s1,.string d1]∧bU W (w.heap.size+1) #[.bool n2,.string s2,.string d2]∧bU W (w.heap.size+1+1) #[.bool false,.string ⟨#[]⟩,.string ⟨#[]⟩]∧Below w.heap.size w W) (nV w _ _ _ _ _ _) ?_
 rintro W ⟨H1,H2,H3,HB⟩
 obtain ⟨k0,k1,k2⟩:=H1.fO
 obtain ⟨k3,k4,k5⟩:=H2.fO
 refine fV 6 (by kernel_rfl) (by kernel_rfl) ?_
 simp only [List.take_succ_cons,List.take_zero,List.drop_succ_cons,List.drop_zero]
 repeat (first|go_big_quiet_skip|(refine wpQuiet_step (fun K hK=>?_);go_simp;(try simp (disch:=omega) only [uP]);(first|(refine hK _ ?_;clear hK K)|(apply Exists.intro;refine ⟨fun _=>?_,hK _ ?_⟩;(first|with_reducible exact Calls.later (Pn.out _)|with_reducible exact Calls.later (HC2.out _)|with_reducible exact Calls.later (HN.out _)|with_reducible exact Calls.later (CS.out _));clear hK K))))
 clear k0 k1 k2 k3 k4 k5
 refine wpQuiet_nil ?_
 intro W5 hb5
 have H2:=Lib.hid (H3.on hb5)
 have HB:=Lib.hid (chain HB hb5 (Nat.le_refl _))
 obtain ⟨a0,a1,a2,a3,a4,a5⟩:=H2.out.aY
 clear hb5 H3 H1
 go_wp2
 refine aB (fun W=>bU W (w.heap.size+1+1) #[.bool r1,.string r2,.string r3]∧Below w.heap.size w W) ⟨by exact bU.jf H2.out _ _ _,aJ HB.out (by omega) _ _ _⟩ ?_
 rintro WR ⟨iU,aZ⟩
 obtain ⟨y90,y91,jo,-,-,-⟩:=iU.aY
 exact bodyPost_ret (v:=.agg #[.bool r1,.string r2,.string r3]) (by simp [results,Tryz.results18,go_sem,y90,y91,jo]) rfl ⟨rfl,aZ⟩
def posR (q:Rat):Rat:=if rn q=true then 0 else q
end Go.Proofs.Ins
