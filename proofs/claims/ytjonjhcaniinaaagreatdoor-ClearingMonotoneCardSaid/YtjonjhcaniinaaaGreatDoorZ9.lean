/- The walks of bW: Plus. -/
import Derived.Test.YtjonjhcaniinaaaGreatDoorZ8
import Derived.Test.YtjonjhcaniinaaaGreatDoorZ7
set_option linter.unusedSimpArgs false
set_option linter.unusedVariables false
set_option maxHeartbeats 8000000
namespace Go.Proofs.Ins
open Go.RowKit
structure an5 (p1:Bool) (p2 p3:ByteArray) (q1:Bool) (q2 q3:ByteArray) (P1 P2 X Y:ByteArray) (r1:Bool) (r2 r3:ByteArray):Prop where
 dp : ∀ w,Calls Tryz.prog 38 #[.agg #[.bool p1,.string p2,.string p3]] w fun e w'=>e = .returned (.string P1)∧Below w.heap.size w w'
 dq : ∀ w,Calls Tryz.prog 38 #[.agg #[.bool q1,.string q2,.string q3]] w fun e w'=>e = .returned (.string P2)∧Below w.heap.size w w'
 mx : ∀ w,Calls Tryz.prog 37 #[.string p2,.string q2] w fun e w'=>e = .returned (.string X)∧Below w.heap.size w w'
 my : ∀ w,Calls Tryz.prog 37 #[.string P1,.string P2] w fun e w'=>e = .returned (.string Y)∧Below w.heap.size w w'
 rd : ∀ w,Calls Tryz.prog 47 #[.bool (!(p1 == q1)),.string X,.string Y] w fun e w'=>e = .returned (.agg #[.bool r1,.string r2,.string r3])∧Below w.heap.size w w'
theorem Ar (n:Bool) (x y k l:Nat) (w:World) (hx:x<256 ^ k) (hy:y<256 ^ l) (hk:k≤1073741824) (hl:l≤1073741824) (h0:0<y) :
  Calls Tryz.prog 47 #[.bool n,.string (bn x),.string (bn y)] w fun e w'=>e = .returned (.agg #[.bool (rn (fr n x y)),.string (rs (fr n x y)),.string (rd (fr n x y))])∧Below w.heap.size w w':=by
 have:=wQ n (bn x) (bn y) w (jS hx hk) (jS hy hl) (by rw [bJ];exact h0)
 rw [bJ,bJ] at this;exact this
theorem aeE (p q:Rat) (k l:Nat) (hp:Sm k p) (hq:Sm l q) (hkl:k+l≤1073741824) :
  an5 (rn p) (rs p) (rd p) (rn q) (rs q) (rd q) (bn p.den) (bn q.den) (bn (nm p*nm q)) (bn (p.den*q.den)) (rn (p*q)) (rs (p*q)) (rd (p*q)):=by
 have h1:=iI hp.1 hq.1
 have h2:=iI hp.2 hq.2
 refine ⟨fun w=>rP p w,fun w=>rP q w,fun w=>lV _ _ k l w hp.1 hq.1 (by omega) (by omega),fun w=>lV _ _ k l w hp.2 hq.2 (by omega) (by omega),fun w=>?_⟩
 have:=Ar (rn p != rn q) _ _ _ _ w h1 h2 hkl hkl (Nat.mul_pos p.den_pos q.den_pos)
 rw [← LW] at this;exact this
set_option maxRecDepth 100000 in
theorem Au (n1:Bool) (s1 d1:ByteArray) (n2:Bool) (s2 d2:ByteArray) (w:World) (h1:s1.size+d1.size≤268435456) (h2:s2.size+d2.size≤268435456) :
  Calls Tryz.prog 22 #[.agg #[.bool n1,.string s1,.string d1],.agg #[.bool n2,.string s2,.string d2]] w fun e w'=>e = .returned (rv (rq n1 s1 d1*rq n2 s2 d2))∧Below w.heap.size w w':=by
 have Pn:=Lib.hid (fun w=>fU n1 s1 d1 w (by omega) (by omega))
 have HC2:=Lib.hid (fun w=>fU n2 s2 d2 w (by omega) (by omega))
 have CS:=aeE _ _ _ _ (sU n1 s1 d1) (sU n2 s2 d2) (by omega)
 generalize rq n1 s1 d1=p at *
 generalize rq n2 s2 d2=q at *
 unfold rv
 generalize bn (nm p*nm q)=X at *
 generalize bn (p.den*q.den)=Y at *
 generalize bn p.den=P1 at *
 generalize bn q.den=P2 at *
 generalize rn (p*q)=r1 at *
 generalize rs (p*q)=r2 at *
 generalize rd (p*q)=r3 at *
 generalize rn p=p1 at *
 generalize rs p=p2 at *
 generalize rd p=p3 at *
 generalize rn q=q1 at *
 generalize rs q=q2 at *
 generalize rd q=q3 at *
 have HD:=Lib.hid CS
 clear CS
 go_enter Tryz.func22,Tryz.ntmps22
 go_wp2
 refine dI (fun W=>bU W w.heap.size #[.bool n1,.string s1,.string d1]∧bU W (w.heap.size+1) #[.bool n2,.string s2,.string d2]∧bU W (w.heap.size+1+1) #[.bool false,.string ⟨#[]⟩,.string ⟨#[]⟩]∧Below w.heap.size w W) (nV w _ _ _ _ _ _) ?_
 rintro W ⟨H1,H2,H3,HB⟩
 obtain ⟨k0,k1,k2⟩:=H1.fO
 obtain ⟨k3,k4,k5⟩:=H2.fO
 refine fV 4 (by kernel_rfl) (by kernel_rfl) ?_
 simp only [List.take_succ_cons,List.take_zero,List.drop_succ_cons,List.drop_zero]
 repeat (first|go_big_quiet_skip|quiet_step (first|with_reducible exact Calls.later (Pn.out _)|with_reducible exact Calls.later (HC2.out _)))
 clear k0 k1 k2 k3 k4 k5
 refine wpQuiet_nil ?_
 intro W1 hb1
 have J1:=Lib.hid (H1.on hb1)
 have J2:=Lib.hid (H2.on hb1)
 have J3:=Lib.hid (H3.on hb1)
 have JB:=Lib.hid (chain HB hb1 (Nat.le_refl _))
 clear H1 H2 H3 HB hb1
 obtain ⟨a0,a1,a2,a3,a4,a5⟩:=J1.out.aY
 obtain ⟨b0,b1,b2,b3,b4,b5⟩:=J2.out.aY
 go_wp2
 clear a0 a1 a2 a3 a4 a5 b0 b1 b2 b3 b4 b5
 refine dI (fun W=>(bU W w.heap.size #[.bool p1,.string p2,.string p3]∧bU W (w.heap.size+1) #[.bool q1,.string q2,.string q3]∧Below w.heap.size w W)∧bU W (w.heap.size+1+1) #[.bool false,.string ⟨#[]⟩,.string ⟨#[]⟩]) ⟨zn _ _ _ _ _ _ J1.out J2.out JB.out (by omega) (Nat.le_refl _) (by omega),(J3.out.ql (by omega) _ _ _).ql (by omega) _ _ _⟩ ?_
 clear J1 J2 J3 JB
 rintro W3 ⟨⟨H1,H2,HB⟩,H3⟩
 obtain ⟨k0,k1,k2⟩:=H1.fO
 obtain ⟨k3,k4,k5⟩:=H2.fO
 refine fV 16 (by kernel_rfl) (by kernel_rfl) ?_
 simp only [List.take_succ_cons,List.take_zero,List.drop_succ_cons,List.drop_zero]
 repeat (first|go_big_quiet_skip|quiet_step (first|with_reducible exact Calls.later (HD.out.dp _)|with_reducible exact Calls.later (HD.out.dq _)|with_reducible exact Calls.later (HD.out.mx _)|with_reducible exact Calls.later (HD.out.my _)|with_reducible exact Calls.later (HD.out.rd _)))
 clear k0 k1 k2 k3 k4 k5
 refine wpQuiet_nil ?_
 intro W5 hb5
 have HB:=Lib.hid (chain HB hb5 (Nat.le_refl _))
 have H2:=Lib.hid (H3.on hb5)
 obtain ⟨a0,a1,a2,a3,a4,a5⟩:=H2.out.aY
 clear hb5 H3 H1
 go_wp2
 refine aB (fun W=>bU W (w.heap.size+1+1) #[.bool r1,.string r2,.string r3]∧Below w.heap.size w W) ⟨by exact bU.jf H2.out _ _ _,aJ HB.out (by omega) _ _ _⟩ ?_
 rintro WR ⟨iU,aZ⟩
 obtain ⟨y90,y91,jo,-,-,-⟩:=iU.aY
 exact bodyPost_ret (v:=.agg #[.bool r1,.string r2,.string r3]) (by simp [results,Tryz.results22,go_sem,y90,y91,jo]) rfl ⟨rfl,aZ⟩
structure an6 (p1:Bool) (p2 p3:ByteArray) (q1:Bool) (q2 q3:ByteArray) (P1 P2 X Y:ByteArray) (r1:Bool) (r2 r3:ByteArray) (ok:Bool):Prop where
 dp : ∀ w,Calls Tryz.prog 38 #[.agg #[.bool p1,.string p2,.string p3]] w fun e w'=>e = .returned (.string P1)∧Below w.heap.size w w'
 dq : ∀ w,Calls Tryz.prog 38 #[.agg #[.bool q1,.string q2,.string q3]] w fun e w'=>e = .returned (.string P2)∧Below w.heap.size w w'
 mx : ∀ w,Calls Tryz.prog 37 #[.string p2,.string P2] w fun e w'=>e = .returned (.string X)∧Below w.heap.size w w'
 my : ∀ w,Calls Tryz.prog 37 #[.string P1,.string q2] w fun e w'=>e = .returned (.string Y)∧Below w.heap.size w w'
 mke : ∀ w,Calls Tryz.prog 141 #[.bool (!(p1 == q1)),.string X,.string Y] w fun e w'=>e = .returned (.tuple #[.agg #[.bool r1,.string r2,.string r3],.bool ok])∧Below w.heap.size w w'
def vF (p q:Rat):Rat:=if q=0 then 0 else p/q
def okR (q:Rat):Bool:=!decide (q=0)
theorem aeF (p q:Rat) (k l:Nat) (hp:Sm k p) (hq:Sm l q) (hkl:k+l≤1073741824) :
  an6 (rn p) (rs p) (rd p) (rn q) (rs q) (rd q) (bn p.den) (bn q.den) (bn (nm p*q.den)) (bn (p.den*nm q)) (rn (vF p q)) (rs (vF p q)) (rd (vF p q)) (okR q):=by
 have h1:=iI hp.1 hq.2
 have h2:=iI hp.2 hq.1
 refine ⟨fun w=>rP p w,fun w=>rP q w,fun w=>lV _ _ k l w hp.1 hq.2 (by omega) (by omega),fun w=>lV _ _ k l w hp.2 hq.1 (by omega) (by omega),fun w=>?_⟩
 by_cases h:q=0
 ·have hy:p.den*nm q=0:=by rw [lT.mpr h,Nat.mul_zero]
  have:=VW (rn p != rn q) (bn (nm p*q.den)) (bn (p.den*nm q)) w (jS h2 hkl) (by rw [bJ,hy])
  unfold vF okR
  rw [if_pos h,decide_eq_true h]
  exact this
 ·have hy:0<p.den*nm q:=Nat.mul_pos p.den_pos (Nat.pos_of_ne_zero fun e=>h (lT.mp e))
  have:=Pm (rn p != rn q) (bn (nm p*q.den)) (bn (p.den*nm q)) w (jS h1 hkl) (jS h2 hkl) (by rw [bJ];exact hy)
  rw [bJ,bJ,← LX h] at this
  unfold vF okR
  rw [if_neg h,decide_eq_false h]
  exact this
set_option maxRecDepth 100000 in
theorem GH (n1:Bool) (s1 d1:ByteArray) (n2:Bool) (s2 d2:ByteArray) (w:World) (h1:s1.size+d1.size≤268435456) (h2:s2.size+d2.size≤268435456) :
  Calls Tryz.prog 108 #[.agg #[.bool n1,.string s1,.string d1],.agg #[.bool n2,.string s2,.string d2]] w fun e w'=>e = .returned (OC (vF (rq n1 s1 d1) (rq n2 s2 d2)) (okR (rq n2 s2 d2)))∧Below w.heap.size w w':=by
 have Pn:=Lib.hid (fun w=>fU n1 s1 d1 w (by omega) (by omega))
 have HC2:=Lib.hid (fun w=>fU n2 s2 d2 w (by omega) (by omega))
 have CS:=aeF _ _ _ _ (sU n1 s1 d1) (sU n2 s2 d2) (by omega)
 generalize rq n1 s1 d1=p at *
 generalize rq n2 s2 d2=q at *
 unfold OC
 generalize okR q=ok at *
 generalize rn (vF p q)=r1 at *
 generalize rs (vF p q)=r2 at *
 generalize rd (vF p q)=r3 at *
 generalize bn (nm p*q.den)=X at *
 generalize bn (p.den*nm q)=Y at *
 generalize bn p.den=P1 at *
 generalize bn q.den=P2 at *
 generalize rn p=p1 at *
 generalize rs p=p2 at *
 generalize rd p=p3 at *
 generalize rn q=q1 at *
 generalize rs q=q2 at *
 generalize rd q=q3 at *
 have HD:=Lib.hid CS
 clear CS
 go_enter Tryz.func108,Tryz.ntmps108
 go_wp2
 refine dI (fun W=>bU W w.heap.size #[.bool n1,.string s1,.string d1]∧bU W (w.heap.size+1) #[.bool n2,.string s2,.string d2]∧bU W (w.heap.size+1+1) #[.bool false,.string ⟨#[]⟩,.string ⟨#[]⟩]∧Below w.heap.size w W) (nV w _ _ _ _ _ _) ?_
 rintro W ⟨H1,H2,H3,HB⟩
 obtain ⟨k0,k1,k2⟩:=H1.fO
 obtain ⟨k3,k4,k5⟩:=H2.fO
 refine fV 4 (by kernel_rfl) (by kernel_rfl) ?_
 simp only [List.take_succ_cons,List.take_zero,List.drop_succ_cons,List.drop_zero]
 repeat (first|go_big_quiet_skip|quiet_step (first|with_reducible exact Calls.later (Pn.out _)|with_reducible exact Calls.later (HC2.out _)))
 clear k0 k1 k2 k3 k4 k5
 refine wpQuiet_nil ?_
 intro W1 hb1
 have J1:=Lib.hid (H1.on hb1)
 have J2:=Lib.hid (H2.on hb1)
 have J3:=Lib.hid (H3.on hb1)
 have JB:=Lib.hid (chain HB hb1 (Nat.le_refl _))
 clear H1 H2 H3 HB hb1
 obtain ⟨a0,a1,a2,a3,a4,a5⟩:=J1.out.aY
 obtain ⟨b0,b1,b2,b3,b4,b5⟩:=J2.out.aY
 go_wp2
 clear a0 a1 a2 a3 a4 a5 b0 b1 b2 b3 b4 b5
 refine dI (fun W=>(bU W w.heap.size #[.bool p1,.string p2,.string p3]∧bU W (w.heap.size+1) #[.bool q1,.string q2,.string q3]∧Below w.heap.size w W)∧bU W (w.heap.size+1+1) #[.bool false,.string ⟨#[]⟩,.string ⟨#[]⟩]) ⟨zn _ _ _ _ _ _ J1.out J2.out JB.out (by omega) (Nat.le_refl _) (by omega),(J3.out.ql (by omega) _ _ _).ql (by omega) _ _ _⟩ ?_
 clear J1 J2 J3 JB
 rintro W3 ⟨⟨H1,H2,HB⟩,H3⟩
 obtain ⟨k0,k1,k2⟩:=H1.fO
 obtain ⟨k3,k4,k5⟩:=H2.fO
 refine fV 18 (by kernel_rfl) (by kernel_rfl) ?_
 simp only [List.take_succ_cons,List.take_zero,List.drop_succ_cons,List.drop_zero]
 repeat (first|go_big_quiet_skip|quiet_step (first|with_reducible exact Calls.later (HD.out.dp _)|with_reducible exact Calls.later (HD.out.dq _)|with_reducible exact Calls.later (HD.out.mx _)|with_reducible exact Calls.later (HD.out.my _)|with_reducible exact Calls.later (HD.out.mke _)))
 clear k0 k1 k2 k3 k4 k5
 refine wpQuiet_nil ?_
 intro W5 hb5
 have HB:=Lib.hid (chain HB hb5 (Nat.le_refl _))
 have H2:=Lib.hid (H3.on hb5)
 obtain ⟨a0,a1,a2,a3,a4,a5⟩:=H2.out.aY
 clear hb5 H3 H1
 go_wp2
 refine aB (fun W=>bU W (w.heap.size+1+1) #[.bool r1,.string r2,.string r3]∧Below w.heap.size w W) ⟨by exact bU.jf H2.out _ _ _,aJ HB.out (by omega) _ _ _⟩ ?_
 rintro WR ⟨iU,aZ⟩
 obtain ⟨y90,y91,jo,-,-,-⟩:=iU.aY
 exact bodyPost_ret (v:=.tuple #[.agg #[.bool r1,.string r2,.string r3],.bool ok]) (by simp [results,Tryz.results108,go_sem,y90,y91,jo]) rfl ⟨rfl,aZ⟩
def GN (p q:Rat):Rat:=if ku p q≤0 then p else q
set_option maxRecDepth 100000 in
theorem VY (n1:Bool) (s1 d1:ByteArray) (n2:Bool) (s2 d2:ByteArray) (w:World) (h1:s1.size+d1.size≤268435456) (h2:s2.size+d2.size≤268435456) :
  Calls Tryz.prog 128 #[.agg #[.bool n1,.string s1,.string d1],.agg #[.bool n2,.string s2,.string d2]] w fun e w'=>e = .returned (rv (GN (rq n1 s1 d1) (rq n2 s2 d2)))∧Below w.heap.size w w':=by
 have Pn:=Lib.hid (fun w=>fU n1 s1 d1 w (by omega) (by omega))
 have HC2:=Lib.hid (fun w=>fU n2 s2 d2 w (by omega) (by omega))
 have CS:=Lib.hid (fun w=>rQ n1 s1 d1 n2 s2 d2 w h1 h2)
 generalize rq n1 s1 d1=p at *
 generalize rq n2 s2 d2=q at *
 unfold rv GN
 generalize ku p q=c at *
 by_cases hc:c≤0
 ·rw [if_pos hc]
  generalize rn p=p1 at *
  generalize rs p=p2 at *
  generalize rd p=p3 at *
  as_aux_lemma =>
  go_enter Tryz.func128,Tryz.ntmps128
  go_wp2_with fail
  refine (CS.out _).mono ?_;rintro e w3 ⟨rfl,hb3⟩
  obtain ⟨H1,H2,H3,HB⟩:=FQ hb3
  obtain ⟨a0,a1,a2,a3,a4,a5⟩:=H1.aY
  have H3:=Lib.hid H3
  clear hb3 H1 H2
  go_wp2_with fail
  refine (Pn.out _).mono ?_;rintro e w4 ⟨rfl,hb4⟩
  have HB:=Lib.hid (chain HB hb4 (Nat.le_refl _))
  have H2:=Lib.hid (H3.out.on hb4)
  obtain ⟨b0,b1,b2,b3,b4,b5⟩:=H2.out.aY
  clear hb4 H3 a0 a1 a2 a3 a4 a5
  go_wp2
  refine aB (fun W=>bU W (w.heap.size+1+1) #[.bool p1,.string p2,.string p3]∧Below w.heap.size w W) ⟨by exact bU.jf H2.out _ _ _,aJ HB.out (by omega) _ _ _⟩ ?_
  rintro WR ⟨iU,aZ⟩
  obtain ⟨y90,y91,jo,-,-,-⟩:=iU.aY
  exact bodyPost_ret (v:=.agg #[.bool p1,.string p2,.string p3]) (by simp [results,Tryz.results128,go_sem,y90,y91,jo]) rfl ⟨rfl,aZ⟩
 ·rw [if_neg hc]
  generalize rn q=p1 at *
  generalize rs q=p2 at *
  generalize rd q=p3 at *
  have hc2:decide (c≤0)=false:=by simp;omega
  clear hc
  as_aux_lemma =>
  go_enter Tryz.func128,Tryz.ntmps128
  go_wp2_with fail
  refine (CS.out _).mono ?_;rintro e w3 ⟨rfl,hb3⟩
  obtain ⟨H1,H2,H3,HB⟩:=FQ hb3
  obtain ⟨a0,a1,a2,a3,a4,a5⟩:=H2.aY
  have H3:=Lib.hid H3
  clear hb3 H1 H2
  go_wp2_with fail
  refine (HC2.out _).mono ?_;rintro e w4 ⟨rfl,hb4⟩
  have HB:=Lib.hid (chain HB hb4 (Nat.le_refl _))
  have H2:=Lib.hid (H3.out.on hb4)
  obtain ⟨b0,b1,b2,b3,b4,b5⟩:=H2.out.aY
  clear hb4 H3 a0 a1 a2 a3 a4 a5
  go_wp2
  refine aB (fun W=>bU W (w.heap.size+1+1) #[.bool p1,.string p2,.string p3]∧Below w.heap.size w W) ⟨by exact bU.jf H2.out _ _ _,aJ HB.out (by omega) _ _ _⟩ ?_
  rintro WR ⟨iU,aZ⟩
  obtain ⟨y90,y91,jo,-,-,-⟩:=iU.aY
  exact bodyPost_ret (v:=.agg #[.bool p1,.string p2,.string p3]) (by simp [results,Tryz.results128,go_sem,y90,y91,jo]) rfl ⟨rfl,aZ⟩
def yL (p q:Rat):Rat:=if 0≤ku p q then p else q
set_option maxRecDepth 100000 in
theorem VZ (n1:Bool) (s1 d1:ByteArray) (n2:Bool) (s2 d2:ByteArray) (w:World) (h1:s1.size+d1.size≤268435456) (h2:s2.size+d2.size≤268435456) :
  Calls Tryz.prog 58 #[.agg #[.bool n1,.string s1,.string d1],.agg #[.bool n2,.string s2,.string d2]] w fun e w'=>e = .returned (rv (yL (rq n1 s1 d1) (rq n2 s2 d2)))∧Below w.heap.size w w':=by
 have Pn:=Lib.hid (fun w=>fU n1 s1 d1 w (by omega) (by omega))
 have HC2:=Lib.hid (fun w=>fU n2 s2 d2 w (by omega) (by omega))
 have CS:=Lib.hid (fun w=>rQ n1 s1 d1 n2 s2 d2 w h1 h2)
 generalize rq n1 s1 d1=p at *
 generalize rq n2 s2 d2=q at *
 unfold rv yL
 generalize ku p q=c at *
 by_cases hc:0≤c
 ·rw [if_pos hc]
  generalize rn p=p1 at *
  generalize rs p=p2 at *
  generalize rd p=p3 at *
  as_aux_lemma =>
  go_enter Tryz.func58,Tryz.ntmps58
  go_wp2_with fail
  refine (CS.out _).mono ?_;rintro e w3 ⟨rfl,hb3⟩
  obtain ⟨H1,H2,H3,HB⟩:=FQ hb3
  obtain ⟨a0,a1,a2,a3,a4,a5⟩:=H1.aY
  have H3:=Lib.hid H3
  clear hb3 H1 H2
  go_wp2_with fail
  refine (Pn.out _).mono ?_;rintro e w4 ⟨rfl,hb4⟩
  have HB:=Lib.hid (chain HB hb4 (Nat.le_refl _))
  have H2:=Lib.hid (H3.out.on hb4)
  obtain ⟨b0,b1,b2,b3,b4,b5⟩:=H2.out.aY
  clear hb4 H3 a0 a1 a2 a3 a4 a5
  go_wp2
  refine aB (fun W=>bU W (w.heap.size+1+1) #[.bool p1,.string p2,.string p3]∧Below w.heap.size w W) ⟨by exact bU.jf H2.out _ _ _,aJ HB.out (by omega) _ _ _⟩ ?_
  rintro WR ⟨iU,aZ⟩
  obtain ⟨y90,y91,jo,-,-,-⟩:=iU.aY
  exact bodyPost_ret (v:=.agg #[.bool p1,.string p2,.string p3]) (by simp [results,Tryz.results58,go_sem,y90,y91,jo]) rfl ⟨rfl,aZ⟩
 ·rw [if_neg hc]
  generalize rn q=p1 at *
  generalize rs q=p2 at *
  generalize rd q=p3 at *
  have hc2:decide (0≤c)=false:=by simp;omega
  clear hc
  as_aux_lemma =>
  go_enter Tryz.func58,Tryz.ntmps58
  go_wp2_with fail
  refine (CS.out _).mono ?_;rintro e w3 ⟨rfl,hb3⟩
  obtain ⟨H1,H2,H3,HB⟩:=FQ hb3
  obtain ⟨a0,a1,a2,a3,a4,a5⟩:=H2.aY
  have H3:=Lib.hid H3
  clear hb3 H1 H2
  go_wp2_with fail
  refine (HC2.out _).mono ?_;rintro e w4 ⟨rfl,hb4⟩
  have HB:=Lib.hid (chain HB hb4 (Nat.le_refl _))
  have H2:=Lib.hid (H3.out.on hb4)
  obtain ⟨b0,b1,b2,b3,b4,b5⟩:=H2.out.aY
  clear hb4 H3 a0 a1 a2 a3 a4 a5
  go_wp2
  refine aB (fun W=>bU W (w.heap.size+1+1) #[.bool p1,.string p2,.string p3]∧Below w.heap.size w W) ⟨by exact bU.jf H2.out _ _ _,aJ HB.out (by omega) _ _ _⟩ ?_
  rintro WR ⟨iU,aZ⟩
  obtain ⟨y90,y91,jo,-,-,-⟩:=iU.aY
  exact bodyPost_ret (v:=.agg #[.bool p1,.string p2,.string p3]) (by simp [results,Tryz.results58,go_sem,y90,y91,jo]) rfl ⟨rfl,aZ⟩
set_option maxRecDepth 100000 in
theorem MO (ax ay:Option Addr) (lx ly cx cy x y:Nat) (w:World) (hX:Limbs w ax lx x) (hY:Limbs w ay ly y) (hlt:x<y) (h0:lx≤1073741824) (h1:lx≤cx) (h2:cx≤9223372036854775807) (h3:ly≤4294967296) :
  Calls Tryz.prog 176 #[.slice ax lx cx,.slice ay ly cy] w (vk w x y):=by
 have HX:=Lib.hid hX
 have HY:=Lib.hid hY
 have HL:=Lib.hid hlt
 have hcm:decide (jK x y<0)=true:=by rw [lU hlt];rfl
 clear hX hY hlt
 go_enter Tryz.func176,Tryz.ntmps176
 go_wp2_with fail
 refine (CQ _ _ _ _ _ _ _ _ _ HX.out HY.out (by omega) (by omega)).mono ?_
 rintro e w3 ⟨rfl,hb3⟩
 have hb:=Lib.hid hb3
 clear hb3
 go_wp2
 go_ret2
 refine ⟨none,0,0,ax,lx,cx,rfl,by omega,by omega,h1,h2,?_,?_,hb.out⟩
 ·rw [Nat.div_eq_of_lt HL.out];exact J9 _
 ·rw [Nat.mod_eq_of_lt HL.out];exact HX.out.below hb.out (Nat.le_refl _)
set_option maxRecDepth 100000 in
theorem Js (ax ay:Option Addr) (lx cx cy x y:Nat) (w:World) (hX:Limbs w ax lx x) (hY:Limbs w ay 1 y) (hle:y≤x) (h1:lx≤1073741824) :
  Calls Tryz.prog 176 #[.slice ax lx cx,.slice ay 1 cy] w (vk w x y):=by
 have hcm:decide (jK x y<0)=false:=by unfold jK;rw [if_neg (by omega)];split <;> rfl
 have hy0:0<y:=by
  rcases Nat.eq_zero_or_pos y with e|e
  ·have:=hY.gY.mp e;omega
  ·exact e
 have hlx:0<lx:=by
  rcases Nat.eq_zero_or_pos lx with e|e
  ·have:=hX.gY.mpr e;omega
  ·exact e
 have HX:=Lib.hid hX
 have HY:=Lib.hid hY
 clear hX hY hle
 go_enter Tryz.func176,Tryz.ntmps176
 go_wp2_with fail
 refine (CQ _ _ _ _ _ _ _ _ _ HX.out HY.out (by omega) (by omega)).mono ?_
 rintro e w3 ⟨rfl,hb3⟩
 have HX3:=HX.out.below hb3 (Nat.le_refl _)
 have HY3:=HY.out.below hb3 (Nat.le_refl _)
 obtain ⟨fx,ex,kx,rx⟩:=HX3
 obtain ⟨fy,ey,ky,ry⟩:=HY3
 rcases rx with h0|⟨b1,o1,rfl,rx⟩
 ·omega
 rcases ry with h0|⟨b2,o2,rfl,ry⟩
 ·omega
 have hcell:=ry 0 (by omega)
 have hy1:fy 0=y:=by rw [← ey];simp [lv]
 have hyl:y<LB:=by rw [← hy1];exact ky.1 0 (by omega)
 rw [hy1,Nat.add_zero] at hcell
 have RX:=Lib.hid rx
 have KX:=Lib.hid kx
 have EX:=Lib.hid ex
 have hb:=Lib.hid hb3
 clear rx ry kx ky ex ey hy1 hb3 HX HY
 go_wp2_with fail
 refine (short_walk _ _ _ _ _ _ _ h1 RX.out KX.out.1 hy0 hyl hlx).mono ?_
 rintro e w4 ⟨aq,lq,cq,rfl,g1,g2,g3,g4⟩
 rw [EX.out] at g3 ⊢
 have G3:=Lib.hid g3
 have G4:=Lib.hid g4
 clear g3 g4
 have hr:x%y<LB:=Nat.lt_trans (Nat.mod_lt _ hy0) hyl
 have hrow:=row_one w4 138 (x%y)
 generalize hR:x%y=R at *
 have HR:=Lib.hid hR
 have gV:=Lib.hid hrow
 clear hR hrow
 have hlv:lv (fun _=>R) 1=R:=by simp [lv]
 have HLV:=Lib.hid hlv
 clear hlv
 go_wp2_with fail
 refine (Ko w4 w4.heap.size 1 138 (fun _=>R) _ (by omega) gV.out (fun _ _=>hr) ((Below.refl _ _).alloc (Nat.le_refl _) _)).mono ?_
 rintro e w5 ⟨ar,lr,cr,rfl,k1,k2,k3,k4⟩
 rw [HLV.out] at k3
 have K3:=Lib.hid k3
 have K4:=Lib.hid k4
 clear k3 k4
 go_wp2
 go_ret2
 refine ⟨aq,lq,cq,ar,lr,cr,rfl,g1,g2,k1,k2,G3.out.below K4.out (Nat.le_refl _),?_,?_⟩
 ·rw [HR.out];exact K3.out
 ·exact hb.out.trans ((G4.out.mono hb.out.size).trans (K4.out.mono (Nat.le_trans hb.out.size G4.out.size)))
set_option maxRecDepth 100000 in
theorem MP (ax ay:Option Addr) (lx ly cx cy x y:Nat) (w:World) (hX:Limbs w ax lx x) (hY:Limbs w ay ly y) (hle:y≤x) (h1:lx≤1073741824) (hly:2≤ly) (h4:ly≤1073741824) :
  Calls Tryz.prog 176 #[.slice ax lx cx,.slice ay ly cy] w (vk w x y):=by
 have hcm:decide (jK x y<0)=false:=by unfold jK;rw [if_neg (by omega)];split <;> rfl
 have hl1:((ly:Int) == 1)=false:=by simp;omega
 have HX:=Lib.hid hX
 have HY:=Lib.hid hY
 have HLE:=Lib.hid hle
 clear hX hY hle
 go_enter Tryz.func176,Tryz.ntmps176
 go_wp2_with fail
 refine (CQ _ _ _ _ _ _ _ _ _ HX.out HY.out (by omega) (by omega)).mono ?_
 rintro e w3 ⟨rfl,hb3⟩
 have HX3:=Lib.hid (HX.out.below hb3 (Nat.le_refl _))
 have HY3:=Lib.hid (HY.out.below hb3 (Nat.le_refl _))
 have hb:=Lib.hid hb3
 clear hb3 HX HY
 go_wp2_with fail
 refine (X8 _ _ _ _ _ _ _ _ _ HX3.out HY3.out HLE.out h1 hly).mono ?_
 rintro e w4 ⟨aq,lq,cq,ar,lr,cr,rfl,g1,g2,g3,g4,g5,g6,g7⟩
 have G5:=Lib.hid g5
 have G6:=Lib.hid g6
 have G7:=Lib.hid (chain hb.out g7 (Nat.le_refl _))
 clear g5 g6 g7
 go_wp2
 go_ret2
 exact ⟨aq,lq,cq,ar,lr,cr,rfl,g1,g2,g3,g4,G5.out,G6.out,G7.out⟩
theorem wR (ax ay:Option Addr) (lx ly cx cy x y:Nat) (w:World) (hX:Limbs w ax lx x) (hY:Limbs w ay ly y) (hy:0<y) (h1:lx≤1073741824) (h2:lx≤cx) (h3:cx≤9223372036854775807) (h4:ly≤1073741824) :
  Calls Tryz.prog 176 #[.slice ax lx cx,.slice ay ly cy] w (vk w x y):=by
 have hly:0<ly:=by
  rcases Nat.eq_zero_or_pos ly with e|e
  ·have:=hY.gY.mpr e;omega
  ·exact e
 by_cases hlt:x<y
 ·exact MO ax ay lx ly cx cy x y w hX hY hlt h1 h2 h3 (by omega)
 ·by_cases h5:ly=1
  ·subst h5;exact Js ax ay lx cx cy x y w hX hY (by omega) h1
  ·exact MP ax ay lx ly cx cy x y w hX hY (by omega) h1 (by omega) h4
def lW (w:World) (a:Option Addr) (l c x:Nat):Prop:=l≤c∧c≤9223372036854775807∧l≤1073741824∧Limbs w a l x
set_option maxRecDepth 100000 in
theorem Tz (ax ay:Option Addr) (lx ly cx cy x y:Nat) (w:World) (h1:lW w ax lx cx x) (h2:lW w ay ly cy y) :
  Calls Tryz.prog 175 #[.slice ax lx cx,.slice ay ly cy] w (eF w (Nat.gcd x y)):=by
 have hstart:CP w w (Nat.gcd x y) y (.slice ax lx cx) (.slice ay ly cy) :=
  ⟨ax,lx,cx,ay,ly,cy,x,rfl,rfl,h1.1,h1.2.1,h1.2.2.1,h2.1,h2.2.1,h2.2.2.1,h1.2.2.2,h2.2.2.2,rfl,Below.refl _ _⟩
 have HS:=Lib.hid hstart
 clear h1 h2 hstart
 go_enter Tryz.func175,Tryz.ntmps175
 go_wp2_with fail
 go_loopg [0,1] y (fun k vx vy wr=>CP w wr (Nat.gcd x y) k vx vy)
 case atStart=>exact HS.out
 case round =>
  obtain ⟨ax,lx,cx,ay,ly,cy,X,rfl,rfl,h1,h2,h3,h4,h5,h6,hX,hY,hg,hbel⟩:=hrel
  clear HS
  have HX:=Lib.hid hX
  have HY:=Lib.hid hY
  have HG:=Lib.hid hg
  have HB:=Lib.hid hbel
  by_cases h0:ly=0
  ·as_aux_lemma =>
   subst h0
   have hk:=hY.gY.mpr rfl
   have HK:=Lib.hid hk
   clear hk hX hY hg hbel
   go_wp2_with fail
   go_ret
   refine ⟨ax,lx,cx,rfl,h1,h2,?_,HB.out⟩
   have:=HG.out
   rw [HK.out,Nat.gcd_zero_right] at this
   rw [← this];exact HX.out
  ·as_aux_lemma =>
   have hk:0<gk:=by
    rcases Nat.eq_zero_or_pos gk with e|e
    ·have:=hY.gY.mp e;omega
    ·exact e
   have hl0:decide ((0:Int)<(ly:Int))=true:=by simp;omega
   clear hX hY hg hbel
   go_wp2_with fail
   refine (wR _ _ _ _ _ _ _ _ _ HX.out HY.out hk h3 h1 h2 h6).mono ?_
   rintro e w3 ⟨aq,lq,cq,ar,lr,cr,rfl,g1,g2,g3,g4,g5,g6,g7⟩
   have hlr:lr≤ly:=g6.zh (Nat.lt_trans (Nat.mod_lt _ hk) HY.out.lt)
   have hnew:CP w w3 (Nat.gcd x y) (X%gk) (.slice ay ly cy) (.slice ar lr cr) :=
    ⟨ay,ly,cy,ar,lr,cr,gk,rfl,rfl,h4,h5,h6,g3,g4,by omega,HY.out.below g7 (Nat.le_refl _),g6,by rw [← HG.out,Nat.gcd_comm X gk,Nat.gcd_rec gk X,Nat.gcd_comm],HB.out.trans (g7.mono HB.out.size)⟩
   have HN:=Lib.hid hnew
   have HML:=Lib.hid (Nat.mod_lt X hk)
   clear hnew g5 g6 g7
   go_wp2_with fail
   go_roundg (X%gk)
   case measure=>exact HML.out
   case rel=>exact HN.out
theorem eF.lim {w w' : World} {a:Option Addr} {l x k:Nat} (h:Limbs w' a l x) (hx:x<256 ^ k) (hk:k≤1073741824):l≤(k+3)/4:=by
 refine h.zh ?_
 rw [BX]
 exact Nat.lt_of_lt_of_le hx (Nat.pow_le_pow_right (by omega) (by omega))

theorem Limbs.shape {w:World} {a:Option Addr} {l x:Nat} (h:Limbs w a l x) (hx:0<x) :
  (l=1∧x<LB∧∃ b o,a=some ⟨b,o,none⟩∧w.cell? ⟨b,o,none⟩=some (.int .u32 (x:Int)))∨(1<l∧1<x):=by
 obtain ⟨f,rfl,h2,h3⟩:=h
 have hl:0<l:=by
  rcases Nat.eq_zero_or_pos l with e|e
  ·subst e;exact absurd hx (Nat.lt_irrefl 0)
  ·exact e
 by_cases h1:l=1
 ·subst h1
  have e:lv f 1=f 0:=by simp [lv]
  rw [e]
  rcases h3 with h3|⟨b,o,rfl,hr⟩
  ·omega
  ·refine .inl ⟨rfl,h2.1 0 (by omega),b,o,rfl,?_⟩
   have:=hr 0 (by omega)
   rwa [Nat.add_zero] at this
 ·right
  refine ⟨by omega,?_⟩
  have:=h2.ge hl
  have h5:LB ^ 1≤LB ^ (l - 1):=Nat.pow_le_pow_right gQ (by omega)
  rw [Nat.pow_one] at h5
  unfold LB at h5 this
  omega
theorem Ep {x y:Nat} (hx:0<x) (hy:0<y):0<Nat.gcd x y∧0<x/Nat.gcd x y∧0<y/Nat.gcd x y :=
 ⟨Nat.gcd_pos_of_pos_left _ hx,Nat.div_pos (Nat.gcd_le_left y hx) (Nat.gcd_pos_of_pos_left y hx),Nat.div_pos (Nat.gcd_le_right x hy) (Nat.gcd_pos_of_pos_left y hx)⟩
set_option maxRecDepth 100000 in
theorem Jt (neg:Bool) (ax ay:Option Addr) (cx ly cy:Nat) (w:World) :
  Calls Tryz.prog 152 #[.bool neg,.slice ax 0 cx,.slice ay ly cy] w fun e w'=>e = .returned (rv 0)∧Below w.heap.size w w':=by
 go_enter Tryz.func152,Tryz.ntmps152
 go_wp2
 exact bodyPost_ret (v:=rv 0) (by simp [results,Tryz.results152,go_sem,rv,zZ,Aa,Ac]) rfl ⟨rfl,(Below.refl _ _).alloc (Nat.le_refl _) _⟩
set_option maxRecDepth 100000 in
theorem MQ (neg:Bool) (ax ay:Option Addr) (lx ly cx cy x y k:Nat) (w:World) (h1:lW w ax lx cx x) (h2:lW w ay ly cy y) (hx:0<x) (hy:0<y) (kx:x<256 ^ k) (ky:y<256 ^ k) (hk:k≤1073741820) :
  Calls Tryz.prog 152 #[.bool neg,.slice ax lx cx,.slice ay ly cy] w fun e w'=>e = .returned (rv (fr neg x y))∧Below w.heap.size w w':=by
 rw [O7 hx hy]
 obtain ⟨g0,n0,d0⟩:=Ep hx hy
 have kn:x/Nat.gcd x y<256 ^ k:=Nat.lt_of_le_of_lt (Nat.div_le_self _ _) kx
 have kd:y/Nat.gcd x y<256 ^ k:=Nat.lt_of_le_of_lt (Nat.div_le_self _ _) ky
 have kg:Nat.gcd x y<256 ^ k:=Nat.lt_of_le_of_lt (Nat.gcd_le_left _ hx) kx
 have hlx:0<lx:=by
  rcases Nat.eq_zero_or_pos lx with e|e
  ·have:=h1.2.2.2.gY.mpr e;omega
  ·exact e
 have hq1:Nat.gcd x y=1→x/Nat.gcd x y=x∧y/Nat.gcd x y=y:=fun e=>by rw [e,Nat.div_one,Nat.div_one];exact ⟨rfl,rfl⟩
 have HCM:=Lib.hid (fun w (h1:lW w ax lx cx x) (h2:lW w ay ly cy y)=>Tz ax ay lx ly cx cy x y w h1 h2)
 have HDX:=Lib.hid (fun w ag lg cg (h1:lW w ax lx cx x) (h2:lW w ag lg cg (Nat.gcd x y))=>wR ax ag lx lg cx cg x (Nat.gcd x y) w h1.2.2.2 h2.2.2.2 g0 h1.2.2.1 h1.1 h1.2.1 h2.2.2.1)
 have HDY:=Lib.hid (fun w ag lg cg (h1:lW w ay ly cy y) (h2:lW w ag lg cg (Nat.gcd x y))=>wR ay ag ly lg cy cg y (Nat.gcd x y) w h1.2.2.2 h2.2.2.2 g0 h1.2.2.1 h1.1 h1.2.1 h2.2.2.1)
 have HN:=Lib.hid h1
 have HM:=Lib.hid h2
 have HQ1:=Lib.hid hq1
 have KN:=Lib.hid kn
 have KD:=Lib.hid kd
 have KG:=Lib.hid kg
 clear h1 h2 kn kd kg kx ky hq1
 generalize hNe:x/Nat.gcd x y=N at *
 generalize hDe:y/Nat.gcd x y=D at *
 generalize Nat.gcd x y=G at *
 have HNE:=Lib.hid hNe
 have HDE:=Lib.hid hDe
 clear hNe hDe
 generalize hT:(if D=1 then (⟨#[]⟩:ByteArray) else bn D)=T
 have HT:=Lib.hid hT
 clear hT
 go_enter Tryz.func152,Tryz.ntmps152
 go_wp2_with fail
 have z0:=(Below.refl w.heap.size w).alloc (Nat.le_refl _) (.cells #[.bool false,.string ⟨#[]⟩,.string ⟨#[]⟩] 42)
 have A1:lW (w.alloc (.cells #[.bool false,.string ⟨#[]⟩,.string ⟨#[]⟩] 42)) ax lx cx x:=⟨HN.out.1,HN.out.2.1,HN.out.2.2.1,HN.out.2.2.2.below z0 (Nat.le_refl _)⟩
 have A2:lW (w.alloc (.cells #[.bool false,.string ⟨#[]⟩,.string ⟨#[]⟩] 42)) ay ly cy y:=⟨HM.out.1,HM.out.2.1,HM.out.2.2.1,HM.out.2.2.2.below z0 (Nat.le_refl _)⟩
 refine (HCM.out _ A1 A2).mono ?_;rintro e w3 ⟨ag,lg,cg,rfl,lcg,ccg,hG,hb3⟩
 have llg:=eF.lim (w:=w) hG KG.out (by omega)
 have B1:=Lib.hid (show lW w3 ax lx cx x from ⟨A1.1,A1.2.1,A1.2.2.1,A1.2.2.2.below hb3 (Nat.le_refl _)⟩)
 have B2:=Lib.hid (show lW w3 ay ly cy y from ⟨A2.1,A2.2.1,A2.2.2.1,A2.2.2.2.below hb3 (Nat.le_refl _)⟩)
 have B3:=Lib.hid (show lW w3 ag lg cg G from ⟨lcg,ccg,by omega,hG⟩)
 have hsh:=hG.shape g0
 have HR:=Lib.hid (fD hb3).1
 have HB:=Lib.hid (fD hb3).2
 clear hb3 hG A1 A2 HCM HN HM z0
 rcases hsh with ⟨rfl,hgl,bg,og,rfl,cg0⟩|⟨hlg,hg1⟩
 ·by_cases hg1:G=1
  ·as_aux_lemma =>
   obtain ⟨e1,e2⟩:=HQ1.out hg1
   have M1:=Lib.hid (show lW w3 ax lx cx N by rw [e1];exact B1.out)
   have M2:=Lib.hid (show lW w3 ay ly cy D by rw [e2];exact B2.out)
   rw [hg1] at cg0
   replace cg0:w3.cell? ⟨bg,og,none⟩=some (.int .u32 1):=cg0
   clear e1 e2 HQ1 B1 B2 B3 HDX HDY hg1
   obtain ⟨u1,u2,u3,hN⟩:=M1.out
   obtain ⟨v1,v2,v3,hD⟩:=M2.out
   have ln:=eF.lim (w:=w) hN KN.out (by omega)
   have ld:=eF.lim (w:=w) hD KD.out (by omega)
   have HNN:=Lib.hid hN
   have HDD:=Lib.hid hD
   clear hN hD
   go_wp2_with fail
   refine (jY _ _ _ _ _ HNN.out (by omega) u1).mono ?_;rintro e w6 ⟨rfl,hb6⟩
   have Po:=Lib.hid (HR.out.on hb6)
   have MI:=Lib.hid (chain HB.out hb6 (Nat.le_refl _))
   have hD6:=HDD.out.below hb6 (Nat.le_refl _)
   have HD6:=Lib.hid hD6
   have hsd:=hD6.shape d0
   clear hb6 hD6 HR HB HNN HDD
   have z6:=Po.out.lt
   rcases hsd with ⟨rfl,hdl,bd,od,rfl,cd⟩|⟨hld,hd1⟩
   ·have zd:=block_lt_of_cell cd
    have cd2:=((Below.refl w6.heap.size w6).alloc (Nat.le_refl _) (.cells #[.bool neg,.string (bn N),.string ⟨#[]⟩] 42)).cell (p:=⟨bd,od,none⟩) zd
    by_cases hd1:D=1
    ·as_aux_lemma =>
     subst hd1
     have hT:=HT.out
     rw [if_pos rfl] at hT
     subst hT
     replace cd:w6.cell? ⟨bd,od,none⟩=some (.int .u32 1):=cd
     rw [cd] at cd2
     obtain ⟨a0,a1,a2,a3,a4,a5⟩:=Po.out.aY
     go_wp2
     have q9:=aJ MI.out (Nat.le_refl _) (.bool neg) (.string (bn N)) (.string ⟨#[]⟩)
     refine aB (fun W=>bU W w.heap.size #[.bool neg,.string (bn N),.string ⟨#[]⟩]∧Below w.heap.size w W) ⟨by exact (bU.jf Po.out _ _ _).alloc _,by exact q9.alloc q9.size _⟩ ?_
     rintro WR ⟨iU,aZ⟩
     obtain ⟨y90,y91,jo,-,-,-⟩:=iU.aY
     exact bodyPost_ret (v:=.agg #[.bool neg,.string (bn N),.string ⟨#[]⟩]) (by simp [results,Tryz.results152,go_sem,y90,y91,jo]) rfl ⟨rfl,aZ⟩
    ·as_aux_lemma =>
     have hT:=HT.out
     rw [if_neg hd1] at hT
     subst hT
     rw [cd] at cd2
     have hd2:(1:Int)<(D:Int):=by omega
     have hd3:(D:Int)≤4294967295:=by unfold LB at hdl;omega
     clear hd1
     go_wp2_with fail
     refine (jY _ _ _ _ _ (HD6.out.below ((Below.refl w6.heap.size w6).alloc (Nat.le_refl _) _) (Nat.le_refl _)) (by omega) v1).mono ?_;rintro e w7 ⟨rfl,hb7⟩
     have R7:=Lib.hid ((Po.out.alloc _).on hb7)
     have S7:=Lib.hid ((bU.new w6 #[.bool neg,.string (bn N),.string ⟨#[]⟩] 42).on hb7)
     have B7:=Lib.hid (chain (MI.out.alloc (by omega) _) hb7 (Nat.le_refl _))
     obtain ⟨a0,a1,a2,a3,a4,a5⟩:=R7.out.aY
     obtain ⟨b0,b1,b2,b3,b4,b5⟩:=S7.out.aY
     have hne:w6.heap.size≠w.heap.size:=by omega
     clear hb7
     go_wp2
     refine aB (fun W=>bU W w.heap.size #[.bool neg,.string (bn N),.string (bn D)]∧Below w.heap.size w W) ⟨by exact bU.jf (R7.out.setOther _ _ (by exact hne.symm)) _ _ _,aJ (B7.out.setCell (by exact Nat.le_of_lt z6) _) (Nat.le_refl _) _ _ _⟩ ?_
     rintro WR ⟨iU,aZ⟩
     obtain ⟨y90,y91,jo,-,-,-⟩:=iU.aY
     exact bodyPost_ret (v:=.agg #[.bool neg,.string (bn N),.string (bn D)]) (by simp [results,Tryz.results152,go_sem,y90,y91,jo]) rfl ⟨rfl,aZ⟩
   ·as_aux_lemma =>
     have hd2:(1:Int)<(ly:Int):=by omega
     have hT:=HT.out
     rw [if_neg (by omega)] at hT
     subst hT
     go_wp2_with fail
     refine (jY _ _ _ _ _ (HD6.out.below ((Below.refl w6.heap.size w6).alloc (Nat.le_refl _) _) (Nat.le_refl _)) (by omega) v1).mono ?_;rintro e w7 ⟨rfl,hb7⟩
     have R7:=Lib.hid ((Po.out.alloc _).on hb7)
     have S7:=Lib.hid ((bU.new w6 #[.bool neg,.string (bn N),.string ⟨#[]⟩] 42).on hb7)
     have B7:=Lib.hid (chain (MI.out.alloc (by omega) _) hb7 (Nat.le_refl _))
     obtain ⟨a0,a1,a2,a3,a4,a5⟩:=R7.out.aY
     obtain ⟨b0,b1,b2,b3,b4,b5⟩:=S7.out.aY
     have hne:w6.heap.size≠w.heap.size:=by omega
     clear hb7
     go_wp2
     refine aB (fun W=>bU W w.heap.size #[.bool neg,.string (bn N),.string (bn D)]∧Below w.heap.size w W) ⟨by exact bU.jf (R7.out.setOther _ _ (by exact hne.symm)) _ _ _,aJ (B7.out.setCell (by exact Nat.le_of_lt z6) _) (Nat.le_refl _) _ _ _⟩ ?_
     rintro WR ⟨iU,aZ⟩
     obtain ⟨y90,y91,jo,-,-,-⟩:=iU.aY
     exact bodyPost_ret (v:=.agg #[.bool neg,.string (bn N),.string (bn D)]) (by simp [results,Tryz.results152,go_sem,y90,y91,jo]) rfl ⟨rfl,aZ⟩
  ·as_aux_lemma =>
   have hg2:(1:Int)<(G:Int):=by omega
   have hg3:(G:Int)≤4294967295:=by unfold LB at hgl;omega
   clear hg1 HQ1
   go_wp2_with fail
   refine (HDX.out _ _ _ _ B1.out B3.out).mono ?_;rintro e w4 ⟨an,ln,cn,qn,l9,c9,rfl,g1,g2,g3,g4,g5,g6,g7⟩
   rw [HNE.out] at g5
   have lln:=eF.lim (w:=w) g5 KN.out (by omega)
   have C1:=Lib.hid (show lW w4 an ln cn N from ⟨g1,g2,by omega,g5⟩)
   have C2:=Lib.hid (show lW w4 ay ly cy y from ⟨B2.out.1,B2.out.2.1,B2.out.2.2.1,B2.out.2.2.2.below g7 (Nat.le_refl _)⟩)
   have C3:=Lib.hid (show lW w4 (some ⟨bg,og,none⟩) 1 cg G from ⟨B3.out.1,B3.out.2.1,B3.out.2.2.1,B3.out.2.2.2.below g7 (Nat.le_refl _)⟩)
   have R4:=Lib.hid (HR.out.on g7)
   have B4:=Lib.hid (chain HB.out g7 (Nat.le_refl _))
   clear g5 g6 g7 HR HB B1 B2 B3 HDX
   go_wp2_with fail
   refine (HDY.out _ _ _ _ C2.out C3.out).mono ?_;rintro e w5 ⟨adn,ldn,cdn,qd,l8,c8,rfl,g1',g2',g3',g4',g5,g6,g7⟩
   rw [HDE.out] at g5
   have lld:=eF.lim (w:=w) g5 KD.out (by omega)
   have M1:=Lib.hid (show lW w5 an ln cn N from ⟨C1.out.1,C1.out.2.1,C1.out.2.2.1,C1.out.2.2.2.below g7 (Nat.le_refl _)⟩)
   have M2:=Lib.hid (show lW w5 adn ldn cdn D from ⟨g1',g2',by omega,g5⟩)
   have HR:=Lib.hid (R4.out.on g7)
   have HB:=Lib.hid (chain B4.out g7 (Nat.le_refl _))
   clear g5 g6 g7 R4 B4 C1 C2 C3 HDY
   obtain ⟨u1,u2,u3,hN⟩:=M1.out
   obtain ⟨v1,v2,v3,hD⟩:=M2.out
   have ln:=eF.lim (w:=w) hN KN.out (by omega)
   have ld:=eF.lim (w:=w) hD KD.out (by omega)
   have HNN:=Lib.hid hN
   have HDD:=Lib.hid hD
   clear hN hD
   go_wp2_with fail
   refine (jY _ _ _ _ _ HNN.out (by omega) u1).mono ?_;rintro e w6 ⟨rfl,hb6⟩
   have Po:=Lib.hid (HR.out.on hb6)
   have MI:=Lib.hid (chain HB.out hb6 (Nat.le_refl _))
   have hD6:=HDD.out.below hb6 (Nat.le_refl _)
   have HD6:=Lib.hid hD6
   have hsd:=hD6.shape d0
   clear hb6 hD6 HR HB HNN HDD
   have z6:=Po.out.lt
   rcases hsd with ⟨rfl,hdl,bd,od,rfl,cd⟩|⟨hld,hd1⟩
   ·have zd:=block_lt_of_cell cd
    have cd2:=((Below.refl w6.heap.size w6).alloc (Nat.le_refl _) (.cells #[.bool neg,.string (bn N),.string ⟨#[]⟩] 42)).cell (p:=⟨bd,od,none⟩) zd
    by_cases hd1:D=1
    ·as_aux_lemma =>
     subst hd1
     have hT:=HT.out
     rw [if_pos rfl] at hT
     subst hT
     replace cd:w6.cell? ⟨bd,od,none⟩=some (.int .u32 1):=cd
     rw [cd] at cd2
     obtain ⟨a0,a1,a2,a3,a4,a5⟩:=Po.out.aY
     go_wp2
     have q9:=aJ MI.out (Nat.le_refl _) (.bool neg) (.string (bn N)) (.string ⟨#[]⟩)
     refine aB (fun W=>bU W w.heap.size #[.bool neg,.string (bn N),.string ⟨#[]⟩]∧Below w.heap.size w W) ⟨by exact (bU.jf Po.out _ _ _).alloc _,by exact q9.alloc q9.size _⟩ ?_
     rintro WR ⟨iU,aZ⟩
     obtain ⟨y90,y91,jo,-,-,-⟩:=iU.aY
     exact bodyPost_ret (v:=.agg #[.bool neg,.string (bn N),.string ⟨#[]⟩]) (by simp [results,Tryz.results152,go_sem,y90,y91,jo]) rfl ⟨rfl,aZ⟩
    ·as_aux_lemma =>
     have hT:=HT.out
     rw [if_neg hd1] at hT
     subst hT
     rw [cd] at cd2
     have hd2:(1:Int)<(D:Int):=by omega
     have hd3:(D:Int)≤4294967295:=by unfold LB at hdl;omega
     clear hd1
     go_wp2_with fail
     refine (jY _ _ _ _ _ (HD6.out.below ((Below.refl w6.heap.size w6).alloc (Nat.le_refl _) _) (Nat.le_refl _)) (by omega) v1).mono ?_;rintro e w7 ⟨rfl,hb7⟩
     have R7:=Lib.hid ((Po.out.alloc _).on hb7)
     have S7:=Lib.hid ((bU.new w6 #[.bool neg,.string (bn N),.string ⟨#[]⟩] 42).on hb7)
     have B7:=Lib.hid (chain (MI.out.alloc (by omega) _) hb7 (Nat.le_refl _))
     obtain ⟨a0,a1,a2,a3,a4,a5⟩:=R7.out.aY
     obtain ⟨b0,b1,b2,b3,b4,b5⟩:=S7.out.aY
     have hne:w6.heap.size≠w.heap.size:=by omega
     clear hb7
     go_wp2
     refine aB (fun W=>bU W w.heap.size #[.bool neg,.string (bn N),.string (bn D)]∧Below w.heap.size w W) ⟨by exact bU.jf (R7.out.setOther _ _ (by exact hne.symm)) _ _ _,aJ (B7.out.setCell (by exact Nat.le_of_lt z6) _) (Nat.le_refl _) _ _ _⟩ ?_
     rintro WR ⟨iU,aZ⟩
     obtain ⟨y90,y91,jo,-,-,-⟩:=iU.aY
     exact bodyPost_ret (v:=.agg #[.bool neg,.string (bn N),.string (bn D)]) (by simp [results,Tryz.results152,go_sem,y90,y91,jo]) rfl ⟨rfl,aZ⟩
   ·as_aux_lemma =>
     have hd2:(1:Int)<(ldn:Int):=by omega
     have hT:=HT.out
     rw [if_neg (by omega)] at hT
     subst hT
     go_wp2_with fail
     refine (jY _ _ _ _ _ (HD6.out.below ((Below.refl w6.heap.size w6).alloc (Nat.le_refl _) _) (Nat.le_refl _)) (by omega) v1).mono ?_;rintro e w7 ⟨rfl,hb7⟩
     have R7:=Lib.hid ((Po.out.alloc _).on hb7)
     have S7:=Lib.hid ((bU.new w6 #[.bool neg,.string (bn N),.string ⟨#[]⟩] 42).on hb7)
     have B7:=Lib.hid (chain (MI.out.alloc (by omega) _) hb7 (Nat.le_refl _))
     obtain ⟨a0,a1,a2,a3,a4,a5⟩:=R7.out.aY
     obtain ⟨b0,b1,b2,b3,b4,b5⟩:=S7.out.aY
     have hne:w6.heap.size≠w.heap.size:=by omega
     clear hb7
     go_wp2
     refine aB (fun W=>bU W w.heap.size #[.bool neg,.string (bn N),.string (bn D)]∧Below w.heap.size w W) ⟨by exact bU.jf (R7.out.setOther _ _ (by exact hne.symm)) _ _ _,aJ (B7.out.setCell (by exact Nat.le_of_lt z6) _) (Nat.le_refl _) _ _ _⟩ ?_
     rintro WR ⟨iU,aZ⟩
     obtain ⟨y90,y91,jo,-,-,-⟩:=iU.aY
     exact bodyPost_ret (v:=.agg #[.bool neg,.string (bn N),.string (bn D)]) (by simp [results,Tryz.results152,go_sem,y90,y91,jo]) rfl ⟨rfl,aZ⟩
 ·as_aux_lemma =>
   have hg2:(1:Int)<(lg:Int):=by omega
   clear hg1 HQ1
   go_wp2_with fail
   refine (HDX.out _ _ _ _ B1.out B3.out).mono ?_;rintro e w4 ⟨an,ln,cn,qn,l9,c9,rfl,g1,g2,g3,g4,g5,g6,g7⟩
   rw [HNE.out] at g5
   have lln:=eF.lim (w:=w) g5 KN.out (by omega)
   have C1:=Lib.hid (show lW w4 an ln cn N from ⟨g1,g2,by omega,g5⟩)
   have C2:=Lib.hid (show lW w4 ay ly cy y from ⟨B2.out.1,B2.out.2.1,B2.out.2.2.1,B2.out.2.2.2.below g7 (Nat.le_refl _)⟩)
   have C3:=Lib.hid (show lW w4 ag lg cg G from ⟨B3.out.1,B3.out.2.1,B3.out.2.2.1,B3.out.2.2.2.below g7 (Nat.le_refl _)⟩)
   have R4:=Lib.hid (HR.out.on g7)
   have B4:=Lib.hid (chain HB.out g7 (Nat.le_refl _))
   clear g5 g6 g7 HR HB B1 B2 B3 HDX
   go_wp2_with fail
   refine (HDY.out _ _ _ _ C2.out C3.out).mono ?_;rintro e w5 ⟨adn,ldn,cdn,qd,l8,c8,rfl,g1',g2',g3',g4',g5,g6,g7⟩
   rw [HDE.out] at g5
   have lld:=eF.lim (w:=w) g5 KD.out (by omega)
   have M1:=Lib.hid (show lW w5 an ln cn N from ⟨C1.out.1,C1.out.2.1,C1.out.2.2.1,C1.out.2.2.2.below g7 (Nat.le_refl _)⟩)
   have M2:=Lib.hid (show lW w5 adn ldn cdn D from ⟨g1',g2',by omega,g5⟩)
   have HR:=Lib.hid (R4.out.on g7)
   have HB:=Lib.hid (chain B4.out g7 (Nat.le_refl _))
   clear g5 g6 g7 R4 B4 C1 C2 C3 HDY
   obtain ⟨u1,u2,u3,hN⟩:=M1.out
   obtain ⟨v1,v2,v3,hD⟩:=M2.out
   have ln:=eF.lim (w:=w) hN KN.out (by omega)
   have ld:=eF.lim (w:=w) hD KD.out (by omega)
   have HNN:=Lib.hid hN
   have HDD:=Lib.hid hD
   clear hN hD
   go_wp2_with fail
   refine (jY _ _ _ _ _ HNN.out (by omega) u1).mono ?_;rintro e w6 ⟨rfl,hb6⟩
   have Po:=Lib.hid (HR.out.on hb6)
   have MI:=Lib.hid (chain HB.out hb6 (Nat.le_refl _))
   have hD6:=HDD.out.below hb6 (Nat.le_refl _)
   have HD6:=Lib.hid hD6
   have hsd:=hD6.shape d0
   clear hb6 hD6 HR HB HNN HDD
   have z6:=Po.out.lt
   rcases hsd with ⟨rfl,hdl,bd,od,rfl,cd⟩|⟨hld,hd1⟩
   ·have zd:=block_lt_of_cell cd
    have cd2:=((Below.refl w6.heap.size w6).alloc (Nat.le_refl _) (.cells #[.bool neg,.string (bn N),.string ⟨#[]⟩] 42)).cell (p:=⟨bd,od,none⟩) zd
    by_cases hd1:D=1
    ·as_aux_lemma =>
     subst hd1
     have hT:=HT.out
     rw [if_pos rfl] at hT
     subst hT
     replace cd:w6.cell? ⟨bd,od,none⟩=some (.int .u32 1):=cd
     rw [cd] at cd2
     obtain ⟨a0,a1,a2,a3,a4,a5⟩:=Po.out.aY
     go_wp2
     have q9:=aJ MI.out (Nat.le_refl _) (.bool neg) (.string (bn N)) (.string ⟨#[]⟩)
     refine aB (fun W=>bU W w.heap.size #[.bool neg,.string (bn N),.string ⟨#[]⟩]∧Below w.heap.size w W) ⟨by exact (bU.jf Po.out _ _ _).alloc _,by exact q9.alloc q9.size _⟩ ?_
     rintro WR ⟨iU,aZ⟩
     obtain ⟨y90,y91,jo,-,-,-⟩:=iU.aY
     exact bodyPost_ret (v:=.agg #[.bool neg,.string (bn N),.string ⟨#[]⟩]) (by simp [results,Tryz.results152,go_sem,y90,y91,jo]) rfl ⟨rfl,aZ⟩
    ·as_aux_lemma =>
     have hT:=HT.out
     rw [if_neg hd1] at hT
     subst hT
     rw [cd] at cd2
     have hd2:(1:Int)<(D:Int):=by omega
     have hd3:(D:Int)≤4294967295:=by unfold LB at hdl;omega
     clear hd1
     go_wp2_with fail
     refine (jY _ _ _ _ _ (HD6.out.below ((Below.refl w6.heap.size w6).alloc (Nat.le_refl _) _) (Nat.le_refl _)) (by omega) v1).mono ?_;rintro e w7 ⟨rfl,hb7⟩
     have R7:=Lib.hid ((Po.out.alloc _).on hb7)
     have S7:=Lib.hid ((bU.new w6 #[.bool neg,.string (bn N),.string ⟨#[]⟩] 42).on hb7)
     have B7:=Lib.hid (chain (MI.out.alloc (by omega) _) hb7 (Nat.le_refl _))
     obtain ⟨a0,a1,a2,a3,a4,a5⟩:=R7.out.aY
     obtain ⟨b0,b1,b2,b3,b4,b5⟩:=S7.out.aY
     have hne:w6.heap.size≠w.heap.size:=by omega
     clear hb7
     go_wp2
     refine aB (fun W=>bU W w.heap.size #[.bool neg,.string (bn N),.string (bn D)]∧Below w.heap.size w W) ⟨by exact bU.jf (R7.out.setOther _ _ (by exact hne.symm)) _ _ _,aJ (B7.out.setCell (by exact Nat.le_of_lt z6) _) (Nat.le_refl _) _ _ _⟩ ?_
     rintro WR ⟨iU,aZ⟩
     obtain ⟨y90,y91,jo,-,-,-⟩:=iU.aY
     exact bodyPost_ret (v:=.agg #[.bool neg,.string (bn N),.string (bn D)]) (by simp [results,Tryz.results152,go_sem,y90,y91,jo]) rfl ⟨rfl,aZ⟩
   ·as_aux_lemma =>
     have hd2:(1:Int)<(ldn:Int):=by omega
     have hT:=HT.out
     rw [if_neg (by omega)] at hT
     subst hT
     go_wp2_with fail
     refine (jY _ _ _ _ _ (HD6.out.below ((Below.refl w6.heap.size w6).alloc (Nat.le_refl _) _) (Nat.le_refl _)) (by omega) v1).mono ?_;rintro e w7 ⟨rfl,hb7⟩
     have R7:=Lib.hid ((Po.out.alloc _).on hb7)
     have S7:=Lib.hid ((bU.new w6 #[.bool neg,.string (bn N),.string ⟨#[]⟩] 42).on hb7)
     have B7:=Lib.hid (chain (MI.out.alloc (by omega) _) hb7 (Nat.le_refl _))
     obtain ⟨a0,a1,a2,a3,a4,a5⟩:=R7.out.aY
     obtain ⟨b0,b1,b2,b3,b4,b5⟩:=S7.out.aY
     have hne:w6.heap.size≠w.heap.size:=by omega
     clear hb7
     go_wp2
     refine aB (fun W=>bU W w.heap.size #[.bool neg,.string (bn N),.string (bn D)]∧Below w.heap.size w W) ⟨by exact bU.jf (R7.out.setOther _ _ (by exact hne.symm)) _ _ _,aJ (B7.out.setCell (by exact Nat.le_of_lt z6) _) (Nat.le_refl _) _ _ _⟩ ?_
     rintro WR ⟨iU,aZ⟩
     obtain ⟨y90,y91,jo,-,-,-⟩:=iU.aY
     exact bodyPost_ret (v:=.agg #[.bool neg,.string (bn N),.string (bn D)]) (by simp [results,Tryz.results152,go_sem,y90,y91,jo]) rfl ⟨rfl,aZ⟩
theorem MR (neg:Bool) (ax ay:Option Addr) (lx ly cx cy x y k:Nat) (w:World) (h1:lW w ax lx cx x) (h2:lW w ay ly cy y) (hy:0<y) (kx:x<256 ^ k) (ky:y<256 ^ k) (hk:k≤1073741820) :
  Calls Tryz.prog 152 #[.bool neg,.slice ax lx cx,.slice ay ly cy] w fun e w'=>e = .returned (.agg #[.bool (rn (fr neg x y)),.string (rs (fr neg x y)),.string (rd (fr neg x y))])∧Below w.heap.size w w':=by
 rcases Nat.eq_zero_or_pos x with h|h
 ·have hl:=h1.2.2.2.gY.mp h
  subst hl
  rw [h,LU]
  exact Jt neg ax ay cx ly cy w
 ·exact MQ neg ax ay lx ly cx cy x y k w h1 h2 h hy kx ky hk
end Go.Proofs.Ins
