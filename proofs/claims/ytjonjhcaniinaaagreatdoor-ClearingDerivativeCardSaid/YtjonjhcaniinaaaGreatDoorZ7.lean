/- The walks of rational.Multiply, Divide, Min, Max. -/
import Derived.Test.YtjonjhcaniinaaaGreatDoorZ6
set_option linter.all false
set_option maxRecDepth 100000
set_option maxHeartbeats 8000000
namespace Go.Proofs.Ins
open Go.RowKit
theorem clean_any (n:Bool) (s d:ByteArray) (w:World) (hs:s.size≤1073741824) (hd:d.size≤1073741824) :
  Calls Tryz.prog 34 #[.agg #[.bool n,.string s,.string d]] w fun e w'=>e = .returned (rv (rq n s d))∧Below w.heap.size w w':=by
 have hv:=fun w=>Nz n s d w hs hd
 by_cases h:Vl n s d
 ·rw [ac2 h]
  rw [wB h] at hv
  have HV:=jx hv
  clear h hv
  go_enter Tryz.func34,Tryz.ntmps34
  go_wp2_with fail
  refine (HV.out _).mono ?_;rintro e w3 ⟨rfl,hb3⟩
  obtain ⟨H1,H2,HB⟩:=OE hb3
  obtain ⟨a0,a1,a2,-,-,-⟩:=H1.bC
  obtain ⟨b0,b1,b2,f0,f1,f2⟩:=H2.bC
  have HB:=jx HB
  have H2:=jx H2
  clear hb3 H1
  go_wp2
  refine aC (fun W=>bY W (w.heap.size+1) #[.bool n,.string s,.string d]∧Below w.heap.size w W) ⟨by exact bY.jE H2.out _ _ _,aQ HB.out jb _ _ _⟩ ?_
  rintro WR ⟨jk,bD⟩
  obtain ⟨y90,y91,jM,-,-,-⟩:=jk.bC
  exact bodyPost_ret (v:=.agg #[.bool n,.string s,.string d]) (by simp [results,Tryz.results34,go_sem,y90,y91,jM]) rfl ⟨rfl,bD⟩
 ·rw [ak6 h]
  rw [mQ h] at hv
  have HV:=jx hv
  clear h hv
  go_enter Tryz.func34,Tryz.ntmps34
  go_wp2_with fail
  refine (HV.out _).mono ?_;rintro e w3 ⟨rfl,hb3⟩
  obtain ⟨H1,H2,HB⟩:=OE hb3
  obtain ⟨a0,a1,a2,-,-,-⟩:=H1.bC
  obtain ⟨b0,b1,b2,f0,f1,f2⟩:=H2.bC
  have HB:=jx HB
  have H2:=jx H2
  clear hb3 H1
  go_wp2
  refine aC (fun W=>bY W (w.heap.size+1) #[.bool false,.string ⟨#[]⟩,.string ⟨#[]⟩]∧Below w.heap.size w W) ⟨by exact bY.jE H2.out _ _ _,aQ HB.out jb _ _ _⟩ ?_
  rintro WR ⟨jk,bD⟩
  obtain ⟨y90,y91,jM,-,-,-⟩:=jk.bC
  exact bodyPost_ret (v:=.agg #[.bool false,.string ⟨#[]⟩,.string ⟨#[]⟩]) (by simp [results,Tryz.results34,go_sem,y90,y91,jM]) rfl ⟨rfl,bD⟩
theorem NC {x:Nat} (h:0<x):(bn x).toList.isEmpty=false∧¬ (bn x).toList=[]:=by
 apply iQ
 intro e
 have:=gW e
 rw [FH] at this
 omega
theorem zT {x:Nat} (h:x≠1):((bn x).toList == [1])=false:=by rw [Jg,decide_eq_false h]
theorem Pm (neg:Bool) (a b:ByteArray) (w:World) (ha:a.size≤1073741824) (hb:b.size≤1073741824) (hx:nv a=0) :
  Calls Tryz.prog 47 #[.bool neg,.string a,.string b] w fun e w'=>e = .returned (rv 0)∧Below w.heap.size w w':=by
 have hN : ∀ w,Calls Tryz.prog 72 #[.string a] w fun e w'=>e = .returned (.string ⟨#[]⟩)∧w=w':=fun w=>by
  have:=aV a w jb;rw [hx] at this;exact this
 have HN:=jx hN
 clear hN hx
 go_enter Tryz.func47,Tryz.ntmps47
 go_wp2_with fail
 refine (HN.out _).mono ?_;rintro e w3 ⟨rfl,rfl⟩
 go_wp2_with fail
 refine (aV b _ jb).mono ?_;rintro e w3 ⟨rfl,rfl⟩
 go_wp2
 exact bodyPost_ret (v:=rv 0) (by simp [results,Tryz.results47,go_sem,rv,Ci,Cj,Cm]) rfl ⟨rfl,(Below.refl _ _).alloc jp _⟩
theorem SG {n:Bool} {x y:Nat} (hx:0<x) (hy:0<y):rv (fr n x y) = .agg #[.bool n,.string (bn (x/Nat.gcd x y)),.string (if y/Nat.gcd x y=1 then ⟨#[]⟩ else bn (y/Nat.gcd x y))]:=by
 obtain ⟨e1,e2,e3⟩:=aak (n:=n) hx hy
 unfold rv;rw [e1,e2,e3]
theorem SH (neg:Bool) (a b:ByteArray) (w:World) (ha:a.size≤1073741824) (hb:b.size≤1073741824) (hx:0<nv a) (hy:nv b=1) :
  Calls Tryz.prog 47 #[.bool neg,.string a,.string b] w fun e w'=>e = .returned (rv (fr neg (nv a) 1))∧Below w.heap.size w w':=by
 have hN : ∀ w,Calls Tryz.prog 72 #[.string a] w fun e w'=>e = .returned (.string (bn (nv a)))∧w=w':=fun w=>aV a w jb
 have hM : ∀ w,Calls Tryz.prog 72 #[.string b] w fun e w'=>e = .returned (.string ⟨#[1]⟩)∧w=w':=fun w=>by
  have:=aV b w jb;rw [hy,AY] at this;exact this
 obtain ⟨h1,h2⟩:=NC hx
 have e:rv (fr neg (nv a) 1) = .agg #[.bool neg,.string (bn (nv a)),.string ⟨#[]⟩]:=by
  rw [SG hx jb,Nat.gcd_one_right,Nat.div_one,if_pos rfl]
 rw [e]
 generalize bn (nv a)=t at *
 have HN:=jx hN
 have HM:=jx hM
 clear hN hM hx hy e
 go_enter Tryz.func47,Tryz.ntmps47
 go_wp2_with fail
 refine (HN.out _).mono ?_;rintro e w3 ⟨rfl,rfl⟩
 go_wp2_with fail
 refine (HM.out _).mono ?_;rintro e w3 ⟨rfl,rfl⟩
 go_wp2
 exact bodyPost_ret (v:=.agg #[.bool neg,.string t,.string ⟨#[]⟩]) (by simp [results,Tryz.results47,go_sem]) rfl ⟨rfl,(Below.refl _ _).alloc jp _⟩
theorem SI (x g:Nat) (w:World) (hx:(bn x).size≤1073741824) (hg:(bn g).size≤1073741824) (h0:0<g) :
  Calls Tryz.prog 87 #[.string (bn x),.string (bn g)] w fun e w'=>e = .returned (.tuple #[.string (bn (x/g)),.string (bn (x%g)),.bool true])∧Below w.heap.size w w':=by
 have:=FQ (bn x) (bn g) w hx hg (by rw [bK];exact h0)
 rw [bK,bK] at this
 exact this
theorem Wj (neg:Bool) (a b:ByteArray) (w:World) (ha:a.size≤1073741824) (hb:b.size≤1073741824) (hx:0<nv a) (hy:1<nv b) (hg:Nat.gcd (nv a) (nv b)=1) :
  Calls Tryz.prog 47 #[.bool neg,.string a,.string b] w fun e w'=>e = .returned (rv (fr neg (nv a) (nv b)))∧Below w.heap.size w w':=by
 have hN : ∀ w,Calls Tryz.prog 72 #[.string a] w fun e w'=>e = .returned (.string (bn (nv a)))∧w=w':=fun w=>aV a w jb
 have hM : ∀ w,Calls Tryz.prog 72 #[.string b] w fun e w'=>e = .returned (.string (bn (nv b)))∧w=w':=fun w=>aV b w jb
 have sa:=mP a
 have sb:=mP b
 obtain ⟨h1,h2⟩:=NC hx
 have h3:=zT (x:=nv b) jb
 have hG : ∀ w,Calls Tryz.prog 86 #[.string (bn (nv a)),.string (bn (nv b))] w fun e w'=>e = .returned (.string ⟨#[1]⟩)∧Below w.heap.size w w':=fun w=>by
  have:=Ho (bn (nv a)) (bn (nv b)) w jb jb
  rw [bK,bK,hg,AY] at this;exact this
 have e:rv (fr neg (nv a) (nv b)) = .agg #[.bool neg,.string (bn (nv a)),.string (bn (nv b))]:=by
  rw [SG hx jb,hg,Nat.div_one,Nat.div_one,if_neg jb]
 rw [e]
 generalize bn (nv a)=t at *
 generalize bn (nv b)=u at *
 have HN:=jx hN
 have HM:=jx hM
 have HG:=jx hG
 clear hN hM hx hy e hG hg
 go_enter Tryz.func47,Tryz.ntmps47
 go_wp2_with fail
 refine (HN.out _).mono ?_;rintro e w3 ⟨rfl,rfl⟩
 go_wp2_with fail
 refine (HM.out _).mono ?_;rintro e w3 ⟨rfl,rfl⟩
 go_wp2_with fail
 refine (HG.out _).mono ?_;rintro e w3 ⟨rfl,hb3⟩
 obtain ⟨H2,HB⟩:=fZ hb3
 obtain ⟨b0,b1,b2,f0,f1,f2⟩:=H2.bC
 have HB:=jx HB
 have H2:=jx H2
 clear hb3
 go_wp2
 refine aC (fun W=>bY W (w.heap.size) #[.bool neg,.string t,.string u]∧Below w.heap.size w W) ⟨by exact bY.jE H2.out _ _ _,aQ HB.out jb _ _ _⟩ ?_
 rintro WR ⟨jk,bD⟩
 obtain ⟨y90,y91,jM,-,-,-⟩:=jk.bC
 exact bodyPost_ret (v:=.agg #[.bool neg,.string t,.string u]) (by simp [results,Tryz.results47,go_sem,y90,y91,jM]) rfl ⟨rfl,bD⟩
set_option maxRecDepth 100000 in
theorem SK (neg:Bool) (a b:ByteArray) (w:World) (ha:a.size≤1073741824) (hb:b.size≤1073741824) (hx:0<nv a) (hy:1<nv b) (hg:Nat.gcd (nv a) (nv b)≠1) :
  Calls Tryz.prog 47 #[.bool neg,.string a,.string b] w fun e w'=>e = .returned (rv (fr neg (nv a) (nv b)))∧Below w.heap.size w w':=by
 have hN : ∀ w,Calls Tryz.prog 72 #[.string a] w fun e w'=>e = .returned (.string (bn (nv a)))∧w=w':=fun w=>aV a w (by omega)
 have hM : ∀ w,Calls Tryz.prog 72 #[.string b] w fun e w'=>e = .returned (.string (bn (nv b)))∧w=w':=fun w=>aV b w (by omega)
 have sa:=mP a
 have sb:=mP b
 obtain ⟨h1,h2⟩:=NC hx
 have h3:=zT (x:=nv b) (by omega)
 have g0:0<Nat.gcd (nv a) (nv b):=Nat.gcd_pos_of_pos_left _ hx
 have h4:=zT hg
 have sg:(bn (Nat.gcd (nv a) (nv b))).size≤a.size:=jP (Nat.lt_of_le_of_lt (Nat.gcd_le_left _ hx) (FD a))
 have hG : ∀ w,Calls Tryz.prog 86 #[.string (bn (nv a)),.string (bn (nv b))] w fun e w'=>e = .returned (.string (bn (Nat.gcd (nv a) (nv b))))∧Below w.heap.size w w':=fun w=>by
  have:=Ho (bn (nv a)) (bn (nv b)) w (by omega) (by omega)
  rw [bK,bK] at this;exact this
 have hD1:=fun w=>SI (nv a) (Nat.gcd (nv a) (nv b)) w (by omega) (by omega) g0
 have hD2:=fun w=>SI (nv b) (Nat.gcd (nv a) (nv b)) w (by omega) (by omega) g0
 have e:=SG (n:=neg) hx (show 0<nv b by omega)
 rw [e]
 have hq:(nv b/Nat.gcd (nv a) (nv b)=1∧bn (nv b/Nat.gcd (nv a) (nv b))=⟨#[1]⟩)∨(¬ nv b/Nat.gcd (nv a) (nv b)=1∧((bn (nv b/Nat.gcd (nv a) (nv b))).toList == [1])=false):=by
  by_cases h:nv b/Nat.gcd (nv a) (nv b)=1
  ·exact .inl ⟨h,by rw [h,AY]⟩
  ·exact .inr ⟨h,zT h⟩
 generalize bn (nv a%Nat.gcd (nv a) (nv b))=v1 at *
 generalize bn (nv b%Nat.gcd (nv a) (nv b))=v2 at *
 generalize bn (nv a/Nat.gcd (nv a) (nv b))=q1 at *
 generalize bn (nv b/Nat.gcd (nv a) (nv b))=q2 at *
 generalize nv b/Nat.gcd (nv a) (nv b)=z at *
 generalize bn (Nat.gcd (nv a) (nv b))=g at *
 generalize bn (nv a)=t at *
 generalize bn (nv b)=u at *
 have HN:=Lib.hid hN
 have HM:=Lib.hid hM
 have HG:=Lib.hid hG
 have HD1:=Lib.hid hD1
 have HD2:=Lib.hid hD2
 clear hN hM hx hy e hG hg hD1 hD2 g0
 rcases hq with ⟨hz,rfl⟩|⟨hz,h5⟩
 ·rw [if_pos hz]
  clear hz
  as_aux_lemma =>
  go_enter Tryz.func47,Tryz.ntmps47
  go_wp2_with fail
  refine (HN.out _).mono ?_;rintro e w3 ⟨rfl,rfl⟩
  go_wp2_with fail
  refine (HM.out _).mono ?_;rintro e w3 ⟨rfl,rfl⟩
  go_wp2_with fail
  refine (HG.out _).mono ?_;rintro e w3 ⟨rfl,hb3⟩
  go_wp2_with fail
  refine (HD1.out _).mono ?_;rintro e w4 ⟨rfl,hb4⟩
  go_wp2_with fail
  refine (HD2.out _).mono ?_;rintro e w5 ⟨rfl,hb5⟩
  obtain ⟨H2,HB⟩:=fZ (chain (chain hb3 hb4 (Nat.le_refl _)) hb5 (Nat.le_refl _))
  obtain ⟨b0,b1,b2,f0,f1,f2⟩:=H2.bC
  have HB:=Lib.hid HB
  have H2:=Lib.hid H2
  clear hb3 hb4 hb5
  go_wp2
  refine aC (fun W=>bY W (w.heap.size) #[.bool neg,.string q1,.string ⟨#[]⟩]∧Below w.heap.size w W) ⟨by exact bY.jE H2.out _ _ _,aQ HB.out (by omega) _ _ _⟩ ?_
  rintro WR ⟨jk,bD⟩
  obtain ⟨y90,y91,jM,-,-,-⟩:=jk.bC
  exact bodyPost_ret (v:=.agg #[.bool neg,.string q1,.string ⟨#[]⟩]) (by simp [results,Tryz.results47,go_sem,y90,y91,jM]) rfl ⟨rfl,bD⟩
 ·rw [if_neg hz]
  clear hz
  as_aux_lemma =>
  go_enter Tryz.func47,Tryz.ntmps47
  go_wp2_with fail
  refine (HN.out _).mono ?_;rintro e w3 ⟨rfl,rfl⟩
  go_wp2_with fail
  refine (HM.out _).mono ?_;rintro e w3 ⟨rfl,rfl⟩
  go_wp2_with fail
  refine (HG.out _).mono ?_;rintro e w3 ⟨rfl,hb3⟩
  go_wp2_with fail
  refine (HD1.out _).mono ?_;rintro e w4 ⟨rfl,hb4⟩
  go_wp2_with fail
  refine (HD2.out _).mono ?_;rintro e w5 ⟨rfl,hb5⟩
  obtain ⟨H2,HB⟩:=fZ (chain (chain hb3 hb4 (Nat.le_refl _)) hb5 (Nat.le_refl _))
  obtain ⟨b0,b1,b2,f0,f1,f2⟩:=H2.bC
  have HB:=Lib.hid HB
  have H2:=Lib.hid H2
  clear hb3 hb4 hb5
  go_wp2
  refine aC (fun W=>bY W (w.heap.size) #[.bool neg,.string q1,.string q2]∧Below w.heap.size w W) ⟨by exact bY.jE H2.out _ _ _,aQ HB.out (by omega) _ _ _⟩ ?_
  rintro WR ⟨jk,bD⟩
  obtain ⟨y90,y91,jM,-,-,-⟩:=jk.bC
  exact bodyPost_ret (v:=.agg #[.bool neg,.string q1,.string q2]) (by simp [results,Tryz.results47,go_sem,y90,y91,jM]) rfl ⟨rfl,bD⟩
theorem SL (neg:Bool) (a b:ByteArray) (w:World) (ha:a.size≤1073741824) (hb:b.size≤1073741824) (hy:0<nv b) :
  Calls Tryz.prog 47 #[.bool neg,.string a,.string b] w fun e w'=>e = .returned (rv (fr neg (nv a) (nv b)))∧Below w.heap.size w w':=by
 rcases Nat.eq_zero_or_pos (nv a) with h|h
 ·rw [h,OI];exact Pm neg a b w ha hb h
 ·rcases Nat.lt_or_ge 1 (nv b) with h1|h1
  ·by_cases h2:Nat.gcd (nv a) (nv b)=1
   ·exact Wj neg a b w ha hb h h1 h2
   ·exact SK neg a b w ha hb h h1 h2
  ·have e:nv b=1:=jb
   rw [e];exact SH neg a b w ha hb h e
theorem iw (n:Bool) (s d:ByteArray) (w:World) (hs:s.size≤1073741824) (hd:d.size≤1073741824) :
  Calls Tryz.prog 34 #[.agg #[.bool n,.string s,.string d]] w fun e w'=>e = .returned (.agg #[.bool (rn (rq n s d)),.string (rs (rq n s d)),.string (rd (rq n s d))])∧Below w.heap.size w w':=clean_any n s d w hs hd
theorem yG (neg:Bool) (a b:ByteArray) (w:World) (ha:a.size≤1073741824) (hb:b.size≤1073741824) (hy:0<nv b) :
  Calls Tryz.prog 47 #[.bool neg,.string a,.string b] w fun e w'=>e = .returned (.agg #[.bool (rn (fr neg (nv a) (nv b))),.string (rs (fr neg (nv a) (nv b))),.string (rd (fr neg (nv a) (nv b)))])∧Below w.heap.size w w':=SL neg a b w ha hb hy
theorem vI (n:Bool) (s d:ByteArray):Sm (s.size+d.size+1) (rq n s d):=aoy jb jb jb
def Ru (q:Rat) (b:Bool):Value:=.tuple #[.agg #[.bool (rn q),.string (rs q),.string (rd q)],.bool b]
theorem Yt (neg:Bool) (a b:ByteArray) (w:World) (hb:b.size≤1073741824) (hy:nv b=0) :
  Calls Tryz.prog 141 #[.bool neg,.string a,.string b] w fun e w'=>e = .returned (Ru 0 false)∧Below w.heap.size w w':=by
 have hN : ∀ w,Calls Tryz.prog 72 #[.string b] w fun e w'=>e = .returned (.string ⟨#[]⟩)∧w=w':=fun w=>by
  have:=aV b w jb;rw [hy] at this;exact this
 have HN:=jx hN
 clear hN hy
 go_enter Tryz.func141,Tryz.ntmps141
 go_wp2_with fail
 refine (HN.out _).mono ?_;rintro e w3 ⟨rfl,rfl⟩
 go_wp2
 exact bodyPost_ret (v:=Ru 0 false) (by simp [results,Tryz.results141,go_sem,Ru,Ci,Cj,Cm]) rfl ⟨rfl,(Below.refl _ _).alloc jp _⟩
set_option maxRecDepth 100000 in
theorem SQ (neg:Bool) (a b:ByteArray) (w:World) (ha:a.size≤1073741824) (hb:b.size≤1073741824) (hy:0<nv b) :
  Calls Tryz.prog 141 #[.bool neg,.string a,.string b] w fun e w'=>e = .returned (Ru (fr neg (nv a) (nv b)) true)∧Below w.heap.size w w':=by
 obtain ⟨h1,h2⟩:=NC hy
 have HR:=Lib.hid (fun w=>yG neg a b w ha hb hy)
 have HN:=Lib.hid (fun w=>aV b w (show b.size≤9223372036854775807 by omega))
 generalize bn (nv b)=t at *
 generalize fr neg (nv a) (nv b)=q at *
 clear hy
 go_enter Tryz.func141,Tryz.ntmps141
 go_wp2_with fail
 refine (HN.out _).mono ?_;rintro e w3 ⟨rfl,rfl⟩
 go_wp2_with fail
 refine (HR.out _).mono ?_;rintro e w3 ⟨rfl,hb3⟩
 obtain ⟨H2,HB⟩:=fZ hb3
 obtain ⟨b0,b1,b2,f0,f1,f2⟩:=H2.bC
 have HB:=Lib.hid HB
 have H2:=Lib.hid H2
 clear hb3
 go_wp2
 refine aC (fun W=>bY W w.heap.size #[.bool (rn q),.string (rs q),.string (rd q)]∧Below w.heap.size w W) ⟨by exact bY.jE H2.out _ _ _,aQ HB.out (by omega) _ _ _⟩ ?_
 rintro WR ⟨jk,bD⟩
 obtain ⟨r0,r1,r2,-,-,-⟩:=jk.bC
 exact bodyPost_ret (v:=Ru q true) (by simp [results,Tryz.results141,go_sem,r0,r1,r2,Ru]) rfl ⟨rfl,bD⟩
theorem LY (i:Int) (w:World) (h1 : -9223372036854775808≤i) (h2:i≤9223372036854775807) :
  Calls Tryz.prog 48 #[.int .i64 i] w fun e w'=>e = .returned (.string (bn i.natAbs))∧Below w.heap.size w w':=by
 by_cases h:i<0
 ·have e1:IntKind.u64.wrap (-IntKind.u64.wrap i)=((i.natAbs:Nat):Int):=by
   simp only [IntKind.wrap,IntKind.bits,IntKind.signed];simp;omega
  have HF:=jx (fun w=>xA i.natAbs w jb)
  go_enter Tryz.func48,Tryz.ntmps48
  go_wp2_with fail
  refine (HF.out _).mono ?_;rintro e w3 ⟨rfl,hb3⟩
  go_wp2
  go_ret
  exact ⟨rfl,hb3⟩
 ·have e1:IntKind.u64.wrap i=((i.natAbs:Nat):Int):=by
   simp only [IntKind.wrap,IntKind.bits,IntKind.signed];simp;omega
  have HF:=jx (fun w=>xA i.natAbs w jb)
  go_enter Tryz.func48,Tryz.ntmps48
  go_wp2_with fail
  refine (HF.out _).mono ?_;rintro e w3 ⟨rfl,hb3⟩
  go_wp2
  go_ret
  exact ⟨rfl,hb3⟩
theorem ac3 (i:Int):fr (decide (i<0)) i.natAbs 1=(i:Rat):=by
 unfold fr;rw [Cc]
 exact (Rat.mkRat_self (i:Rat))
set_option maxRecDepth 100000 in
theorem Yu (i:Int) (w:World) (h1 : -9223372036854775808≤i) (h2:i≤9223372036854775807) :
  Calls Tryz.prog 23 #[.int .i64 i] w fun e w'=>e = .returned (.agg #[.bool (rn (i:Rat)),.string (rs (i:Rat)),.string (rd (i:Rat))])∧Below w.heap.size w w':=by
 have hsz:(bn i.natAbs).size≤8:=jP (by omega)
 have hR : ∀ w,Calls Tryz.prog 47 #[.bool (decide (i<0)),.string (bn i.natAbs),.string ⟨#[1]⟩] w fun e w'=>e = .returned (.agg #[.bool (rn (i:Rat)),.string (rs (i:Rat)),.string (rd (i:Rat))])∧Below w.heap.size w w':=fun w=>by
  have:=yG (decide (i<0)) (bn i.natAbs) ⟨#[1]⟩ w (by omega) (by decide) (by decide)
  rw [bK,show nv ⟨#[1]⟩=1 by decide,ac3] at this
  exact this
 have HF:=Lib.hid (fun w=>LY i w h1 h2)
 generalize bn i.natAbs=t at *
 generalize (i:Rat)=q at *
 have HR:=Lib.hid hR
 clear hR
 go_enter Tryz.func23,Tryz.ntmps23
 go_wp2_with fail
 refine (HF.out _).mono ?_;rintro e w3 ⟨rfl,hb3⟩
 go_wp2_with fail
 refine (HR.out _).mono ?_;rintro e w4 ⟨rfl,hb4⟩
 obtain ⟨H2,HB⟩:=fZ (chain hb3 hb4 (Nat.le_refl _))
 obtain ⟨b0,b1,b2,f0,f1,f2⟩:=H2.bC
 have HB:=Lib.hid HB
 have H2:=Lib.hid H2
 clear hb3 hb4
 go_wp2
 refine aC (fun W=>bY W (w.heap.size) #[.bool (rn q),.string (rs q),.string (rd q)]∧Below w.heap.size w W) ⟨by exact bY.jE H2.out _ _ _,aQ HB.out (by omega) _ _ _⟩ ?_
 rintro WR ⟨jk,bD⟩
 obtain ⟨y90,y91,jM,-,-,-⟩:=jk.bC
 exact bodyPost_ret (v:=.agg #[.bool (rn q),.string (rs q),.string (rd q)]) (by simp [results,Tryz.results23,go_sem,y90,y91,jM]) rfl ⟨rfl,bD⟩
theorem Bc (q:Rat) (w:World) :
  Calls Tryz.prog 35 #[.agg #[.bool (rn q),.string (rs q),.string (rd q)]] w fun e w'=>e = .returned (.int .i64 (sg q))∧Below w.heap.size w w':=by
 by_cases h:nm q=0
 ·have e:=nO.mp h
  subst e
  rw [Yi h,Ci,Cj,Cm]
  clear h
  go_enter Tryz.func35,Tryz.ntmps35
  go_wp2
  go_ret
  exact ⟨rfl,(Below.refl _ _).alloc jp _⟩
 ·obtain ⟨h1,h2⟩:=NC (x:=nm q) jb
  have e:rs q=bn (nm q):=rfl
  rw [e]
  generalize bn (nm q)=t at *
  cases hn:rn q
  ·rw [acI hn h]
   clear h hn e
   go_enter Tryz.func35,Tryz.ntmps35
   go_wp2
   go_ret
   exact ⟨rfl,(Below.refl _ _).alloc jp _⟩
  ·rw [acH hn]
   clear h hn e
   go_enter Tryz.func35,Tryz.ntmps35
   go_wp2
   go_ret
   exact ⟨rfl,(Below.refl _ _).alloc jp _⟩
theorem Jh (n:Bool) (s d:ByteArray) (w:World) (hs:s.size≤268435456) (hd:d.size≤268435456) :
  Calls Tryz.prog 12 #[.agg #[.bool n,.string s,.string d]] w fun e w'=>e = .returned (.int .i64 (sg (rq n s d)))∧Below w.heap.size w w':=by
 have HC:=jx (fun w=>iw n s d w jb jb)
 generalize rq n s d=q at *
 have HS:=jx (fun w=>Bc q w)
 generalize sg q=i at *
 go_enter Tryz.func12,Tryz.ntmps12
 go_wp2_with fail
 refine (HC.out _).mono ?_;rintro e w3 ⟨rfl,hb3⟩
 go_wp2_with fail
 refine (HS.out _).mono ?_;rintro e w4 ⟨rfl,hb4⟩
 obtain ⟨H2,HB⟩:=fZ (chain hb3 hb4 jp)
 have HB:=jx HB
 clear hb3 hb4
 go_wp2
 go_ret
 exact ⟨rfl,HB.out⟩
theorem oO (w:World) (vs us:Array Value) (T U:TypeId):bY ((w.alloc (.cells vs T)).alloc (.cells us U)) w.heap.size vs∧bY ((w.alloc (.cells vs T)).alloc (.cells us U)) (w.heap.size+1) us∧Below w.heap.size w ((w.alloc (.cells vs T)).alloc (.cells us U)) :=
 OE (Below.refl _ _)
theorem ql (w:World) (vs us ts:Array Value) (T U V:TypeId):bY (((w.alloc (.cells vs T)).alloc (.cells us U)).alloc (.cells ts V)) w.heap.size vs∧bY (((w.alloc (.cells vs T)).alloc (.cells us U)).alloc (.cells ts V)) (w.heap.size+1) us∧bY (((w.alloc (.cells vs T)).alloc (.cells us U)).alloc (.cells ts V)) (w.heap.size+1+1) ts∧Below w.heap.size w (((w.alloc (.cells vs T)).alloc (.cells us U)).alloc (.cells ts V)) :=
 IL (Below.refl _ _)
theorem Bd {w W:World} {b1 b2:Nat} {v1 v2 v3 u1 u2 u3:Value} (x1 x2 x3 y1 y2 y3:Value) (h1:bY W b1 #[v1,v2,v3]) (h2:bY W b2 #[u1,u2,u3]) (hb:Below w.heap.size w W) (hn:b1≠b2) (l1:w.heap.size≤b1) (l2:w.heap.size≤b2) :
  bY ((((((W.setCell ⟨b1,0,none⟩ x1).setCell ⟨b1,1,none⟩ x2).setCell ⟨b1,2,none⟩ x3).setCell ⟨b2,0,none⟩ y1).setCell ⟨b2,1,none⟩ y2).setCell ⟨b2,2,none⟩ y3) b1 #[x1,x2,x3] ∧
  bY ((((((W.setCell ⟨b1,0,none⟩ x1).setCell ⟨b1,1,none⟩ x2).setCell ⟨b1,2,none⟩ x3).setCell ⟨b2,0,none⟩ y1).setCell ⟨b2,1,none⟩ y2).setCell ⟨b2,2,none⟩ y3) b2 #[y1,y2,y3] ∧
  Below w.heap.size w ((((((W.setCell ⟨b1,0,none⟩ x1).setCell ⟨b1,1,none⟩ x2).setCell ⟨b1,2,none⟩ x3).setCell ⟨b2,0,none⟩ y1).setCell ⟨b2,1,none⟩ y2).setCell ⟨b2,2,none⟩ y3) :=
 ⟨(h1.jE _ _ _).su hn _ _ _,(h2.su hn.symm _ _ _).jE _ _ _,aQ (aQ hb l1 _ _ _) l2 _ _ _⟩
theorem uP (q:Rat) (w:World):Calls Tryz.prog 38 #[.agg #[.bool (rn q),.string (rs q),.string (rd q)]] w fun e w'=>e = .returned (.string (bn q.den))∧Below w.heap.size w w':=by
 have:=ag4 (rn q) (rs q) (rd q) w
 rw [ak5] at this;exact this
theorem lu {x k:Nat} (h:x<256 ^ k) (hk:k≤1073741824):(bn x).size≤1073741824:=Nat.le_trans (jP h) hk
theorem nS (x y k l:Nat) (w:World) (hx:x<256 ^ k) (hy:y<256 ^ l) (hk:k≤1073741824) (hl:l≤1073741824) :
  Calls Tryz.prog 37 #[.string (bn x),.string (bn y)] w fun e w'=>e = .returned (.string (bn (x*y)))∧Below w.heap.size w w':=by
 have:=CS (bn x) (bn y) w (lu hx hk) (lu hy hl)
 rw [bK,bK] at this;exact this
structure arD (p1:Bool) (p2 p3:ByteArray) (q1:Bool) (q2 q3:ByteArray) (P1 P2 X Y:ByteArray) (c σ τ:Int):Prop where
 dp : ∀ w,Calls Tryz.prog 38 #[.agg #[.bool p1,.string p2,.string p3]] w fun e w'=>e = .returned (.string P1)∧Below w.heap.size w w'
 dq : ∀ w,Calls Tryz.prog 38 #[.agg #[.bool q1,.string q2,.string q3]] w fun e w'=>e = .returned (.string P2)∧Below w.heap.size w w'
 mx : ∀ w,Calls Tryz.prog 37 #[.string p2,.string P2] w fun e w'=>e = .returned (.string X)∧Below w.heap.size w w'
 my : ∀ w,Calls Tryz.prog 37 #[.string q2,.string P1] w fun e w'=>e = .returned (.string Y)∧Below w.heap.size w w'
 cm : ∀ w,Calls Tryz.prog 36 #[.string X,.string Y] w fun e w'=>e = .returned (.int .i64 c)∧Below w.heap.size w w'
 sp : ∀ w,Calls Tryz.prog 35 #[.agg #[.bool p1,.string p2,.string p3]] w fun e w'=>e = .returned (.int .i64 σ)∧Below w.heap.size w w'
 sq : ∀ w,Calls Tryz.prog 35 #[.agg #[.bool q1,.string q2,.string q3]] w fun e w'=>e = .returned (.int .i64 τ)∧Below w.heap.size w w'
theorem ahb (p q:Rat) (k l:Nat) (hp:Sm k p) (hq:Sm l q) (hkl:k+l≤1073741824) :
  arD (rn p) (rs p) (rd p) (rn q) (rs q) (rd q) (bn p.den) (bn q.den) (bn (nm p*q.den)) (bn (nm q*p.den)) (kS (nm p*q.den) (nm q*p.den)) (sg p) (sg q):=by
 have h1:=iW hp.1 hq.2
 have h2:=iW hq.1 hp.2
 refine ⟨fun w=>uP p w,fun w=>uP q w,fun w=>nS _ _ k l w hp.1 hq.2 jb jb,fun w=>nS _ _ l k w hq.1 hp.2 jb jb,fun w=>?_,fun w=>Bc p w,fun w=>Bc q w⟩
 have:=OT (bn (nm p*q.den)) (bn (nm q*p.den)) w (lu h1 hkl) (lu h2 jb)
 rw [bK,bK] at this
 exact this.mono fun e w' ⟨he,hw⟩=>⟨he,by subst hw;exact Below.refl _ _⟩
theorem uS (n1:Bool) (s1 d1:ByteArray) (n2:Bool) (s2 d2:ByteArray) (w:World) (h1:s1.size+d1.size≤268435456) (h2:s2.size+d2.size≤268435456) :
  Calls Tryz.prog 11 #[.agg #[.bool n1,.string s1,.string d1],.agg #[.bool n2,.string s2,.string d2]] w fun e w'=>e = .returned (.int .i64 (lY (rq n1 s1 d1) (rq n2 s2 d2)))∧Below w.heap.size w w':=by
 have SS:=jx (fun w=>iw n1 s1 d1 w jb jb)
 have HC2:=jx (fun w=>iw n2 s2 d2 w jb jb)
 have Et:=ahb _ _ _ _ (vI n1 s1 d1) (vI n2 s2 d2) jb
 generalize rq n1 s1 d1=p at *
 generalize rq n2 s2 d2=q at *
 have f1:sg p<sg q→lY p q = -1:=VI
 have f2:sg q<sg p→lY p q=1:=VJ
 have f3:sg p=sg q→lY p q=if rn p=true then -(kS (nm p*q.den) (nm q*p.den)) else kS (nm p*q.den) (nm q*p.den):=aal
 have f4 : -1≤kS (nm p*q.den) (nm q*p.den)∧kS (nm p*q.den) (nm q*p.den)≤1:=by unfold kS;split;omega;split <;> omega
 generalize bn (nm p*q.den)=X at *
 generalize bn (nm q*p.den)=Y at *
 generalize bn p.den=P1 at *
 generalize bn q.den=P2 at *
 generalize kS (nm p*q.den) (nm q*p.den)=c at *
 generalize lY p q=R at *
 generalize sg p=σ at *
 generalize sg q=τ at *
 generalize rn p=p1 at *
 generalize rs p=p2 at *
 generalize rd p=p3 at *
 generalize rn q=q1 at *
 generalize rs q=q2 at *
 generalize rd q=q3 at *
 have F:=jx (And.intro f1 (And.intro f2 f3))
 have HD:=jx Et
 clear f1 f2 f3 Et
 go_enter Tryz.func11,Tryz.ntmps11
 go_wp2
 refine dU (fun W=>bY W w.heap.size #[.bool n1,.string s1,.string d1]∧bY W (w.heap.size+1) #[.bool n2,.string s2,.string d2]∧Below w.heap.size w W) (oO w _ _ _ _) ?_
 rintro W ⟨H1,H2,HB⟩
 obtain ⟨k0,k1,k2⟩:=H1.gX
 obtain ⟨k3,k4,k5⟩:=H2.gX
 refine iC 4 (by kernel_rfl) (by kernel_rfl) ?_
 simp only [List.take_succ_cons,List.take_zero,List.drop_succ_cons,List.drop_zero]
 repeat (first|go_big_quiet_skip|quiet_step (first|with_reducible exact Calls.later (SS.out _)|with_reducible exact Calls.later (HC2.out _)))
 clear k0 k1 k2 k3 k4 k5
 refine wpQuiet_nil ?_
 intro W1 hb1
 have J1:=jx (H1.on hb1)
 have J2:=jx (H2.on hb1)
 have GB:=jx (chain HB hb1 jp)
 clear H1 H2 HB hb1
 obtain ⟨a0,a1,a2,a3,a4,a5⟩:=J1.out.bC
 obtain ⟨b0,b1,b2,b3,b4,b5⟩:=J2.out.bC
 go_wp2
 clear a0 a1 a2 a3 a4 a5 b0 b1 b2 b3 b4 b5
 refine dU (fun W=>bY W w.heap.size #[.bool p1,.string p2,.string p3]∧bY W (w.heap.size+1) #[.bool q1,.string q2,.string q3]∧Below w.heap.size w W) (Bd _ _ _ _ _ _ J1.out J2.out GB.out jb jp jb) ?_
 clear J1 J2 GB
 rintro W3 ⟨H1,H2,HB⟩
 obtain ⟨k0,k1,k2⟩:=H1.gX
 obtain ⟨k3,k4,k5⟩:=H2.gX
 refine bU (by kernel_rfl) (by kernel_rfl) ?_
 repeat (first|go_big_quiet_skip|quiet_step (first|with_reducible exact Calls.later (HD.out.sp _)|with_reducible exact Calls.later (HD.out.sq _)))
 clear k0 k1 k2 k3 k4 k5
 refine wpQuiet_nil ?_
 intro W4 hb4
 have J1:=H1.on hb4
 have J2:=H2.on hb4
 have JB:=jx (chain HB hb4 jp)
 clear H1 H2 HB hb4 SS HC2
 obtain ⟨a0,a1,a2,-,-,-⟩:=J1.bC
 obtain ⟨b0,b1,b2,-,-,-⟩:=J2.bC
 by_cases h:σ=τ
 ·as_aux_lemma =>
  subst h
  have hR:=F.out.2.2 rfl
  obtain ⟨c1,c2⟩:=f4
  have HR:=jx hR
  clear F hR
  go_wp2
  clear a0 a1 a2 b0 b1 b2
  obtain ⟨k0,k1,k2⟩:=J1.gX
  obtain ⟨k3,k4,k5⟩:=J2.gX
  refine bU (by kernel_rfl) (by kernel_rfl) ?_
  repeat (first|go_big_quiet_skip|quiet_step (first|with_reducible exact Calls.later (HD.out.dp _)|with_reducible exact Calls.later (HD.out.dq _)|with_reducible exact Calls.later (HD.out.mx _)|with_reducible exact Calls.later (HD.out.my _)|with_reducible exact Calls.later (HD.out.cm _)))
  clear k0 k1 k2 k3 k4 k5
  refine wpQuiet_nil ?_
  intro W5 hb5
  have E1:=J1.on hb5
  have EB:=jx (chain JB.out hb5 jp)
  clear J2 hb5 JB
  obtain ⟨a0,a1,a2,-,-,-⟩:=E1.bC
  cases p1
  ·go_wp2
   go_ret
   exact ⟨aW HR.out.symm,EB.out⟩
  ·have e5:IntKind.i64.wrap (-c) = -c:=IntWalk.i64_in _ jb
   go_wp2
   go_ret
   exact ⟨aW HR.out.symm,EB.out⟩
 ·as_aux_lemma =>
  have e1:(σ == τ)=false:=by simp [h]
  have e2:(σ != τ)=true:=by simp [h]
  by_cases h2:σ<τ
  ·have HR:=jx (F.out.1 h2)
   clear F h
   go_wp2
   go_ret
   exact ⟨aW HR.out.symm,JB.out⟩
  ·have HR:=jx (F.out.2.1 jb)
   have e3:decide (σ<τ)=false:=by simp;omega
   clear F h
   go_wp2
   go_ret
   exact ⟨aW HR.out.symm,JB.out⟩
structure arE (p1:Bool) (p2 p3:ByteArray) (q1:Bool) (q2 q3:ByteArray) (P1 P2 X Y:ByteArray) (r1:Bool) (r2 r3:ByteArray):Prop where
 dp : ∀ w,Calls Tryz.prog 38 #[.agg #[.bool p1,.string p2,.string p3]] w fun e w'=>e = .returned (.string P1)∧Below w.heap.size w w'
 dq : ∀ w,Calls Tryz.prog 38 #[.agg #[.bool q1,.string q2,.string q3]] w fun e w'=>e = .returned (.string P2)∧Below w.heap.size w w'
 mx : ∀ w,Calls Tryz.prog 37 #[.string p2,.string q2] w fun e w'=>e = .returned (.string X)∧Below w.heap.size w w'
 my : ∀ w,Calls Tryz.prog 37 #[.string P1,.string P2] w fun e w'=>e = .returned (.string Y)∧Below w.heap.size w w'
 rd : ∀ w,Calls Tryz.prog 47 #[.bool (!(p1 == q1)),.string X,.string Y] w fun e w'=>e = .returned (.agg #[.bool r1,.string r2,.string r3])∧Below w.heap.size w w'
theorem CY (n:Bool) (x y k l:Nat) (w:World) (hx:x<256 ^ k) (hy:y<256 ^ l) (hk:k≤1073741824) (hl:l≤1073741824) (h0:0<y) :
  Calls Tryz.prog 47 #[.bool n,.string (bn x),.string (bn y)] w fun e w'=>e = .returned (.agg #[.bool (rn (fr n x y)),.string (rs (fr n x y)),.string (rd (fr n x y))])∧Below w.heap.size w w':=by
 have:=yG n (bn x) (bn y) w (lu hx hk) (lu hy hl) (by rw [bK];exact h0)
 rw [bK,bK] at this;exact this
theorem ahc (p q:Rat) (k l:Nat) (hp:Sm k p) (hq:Sm l q) (hkl:k+l≤1073741824) :
  arE (rn p) (rs p) (rd p) (rn q) (rs q) (rd q) (bn p.den) (bn q.den) (bn (nm p*nm q)) (bn (p.den*q.den)) (rn (p*q)) (rs (p*q)) (rd (p*q)):=by
 have h1:=iW hp.1 hq.1
 have h2:=iW hp.2 hq.2
 refine ⟨fun w=>uP p w,fun w=>uP q w,fun w=>nS _ _ k l w hp.1 hq.1 jb jb,fun w=>nS _ _ k l w hp.2 hq.2 jb jb,fun w=>?_⟩
 have:=CY (rn p != rn q) _ _ _ _ w h1 h2 hkl hkl (Nat.mul_pos p.den_pos q.den_pos)
 rw [← OL] at this;exact this
theorem CZ (n1:Bool) (s1 d1:ByteArray) (n2:Bool) (s2 d2:ByteArray) (w:World) (h1:s1.size+d1.size≤268435456) (h2:s2.size+d2.size≤268435456) :
  Calls Tryz.prog 22 #[.agg #[.bool n1,.string s1,.string d1],.agg #[.bool n2,.string s2,.string d2]] w fun e w'=>e = .returned (rv (rq n1 s1 d1*rq n2 s2 d2))∧Below w.heap.size w w':=by
 have SS:=jx (fun w=>iw n1 s1 d1 w jb jb)
 have HC2:=jx (fun w=>iw n2 s2 d2 w jb jb)
 have Et:=ahc _ _ _ _ (vI n1 s1 d1) (vI n2 s2 d2) jb
 generalize rq n1 s1 d1=p at *
 generalize rq n2 s2 d2=q at *
 unfold rv
 generalize bn (nm p*nm q)=X at *
 generalize bn (p.den*q.den)=Y at *
 generalize bn p.den=P1 at *
 generalize bn q.den=P2 at *
 generalize rn (p*q)=r1 at *
 generalize rs (p*q)=r2 at *
 generalize rd (p*q)=r3 at *
 generalize rn p=p1 at *
 generalize rs p=p2 at *
 generalize rd p=p3 at *
 generalize rn q=q1 at *
 generalize rs q=q2 at *
 generalize rd q=q3 at *
 have HD:=jx Et
 clear Et
 go_enter Tryz.func22,Tryz.ntmps22
 go_wp2
 refine dU (fun W=>bY W w.heap.size #[.bool n1,.string s1,.string d1]∧bY W (w.heap.size+1) #[.bool n2,.string s2,.string d2]∧bY W (w.heap.size+1+1) #[.bool false,.string ⟨#[]⟩,.string ⟨#[]⟩]∧Below w.heap.size w W) (ql w _ _ _ _ _ _) ?_
 rintro W ⟨H1,H2,H3,HB⟩
 obtain ⟨k0,k1,k2⟩:=H1.gX
 obtain ⟨k3,k4,k5⟩:=H2.gX
 refine iC 4 (by kernel_rfl) (by kernel_rfl) ?_
 simp only [List.take_succ_cons,List.take_zero,List.drop_succ_cons,List.drop_zero]
 repeat (first|go_big_quiet_skip|quiet_step (first|with_reducible exact Calls.later (SS.out _)|with_reducible exact Calls.later (HC2.out _)))
 clear k0 k1 k2 k3 k4 k5
 refine wpQuiet_nil ?_
 intro W1 hb1
 have J1:=jx (H1.on hb1)
 have J2:=jx (H2.on hb1)
 have J3:=jx (H3.on hb1)
 have JB:=jx (chain HB hb1 jp)
 clear H1 H2 H3 HB hb1
 obtain ⟨a0,a1,a2,a3,a4,a5⟩:=J1.out.bC
 obtain ⟨b0,b1,b2,b3,b4,b5⟩:=J2.out.bC
 go_wp2
 clear a0 a1 a2 a3 a4 a5 b0 b1 b2 b3 b4 b5
 refine dU (fun W=>(bY W w.heap.size #[.bool p1,.string p2,.string p3]∧bY W (w.heap.size+1) #[.bool q1,.string q2,.string q3]∧Below w.heap.size w W)∧bY W (w.heap.size+1+1) #[.bool false,.string ⟨#[]⟩,.string ⟨#[]⟩]) ⟨Bd _ _ _ _ _ _ J1.out J2.out JB.out jb jp jb,(J3.out.su jb _ _ _).su jb _ _ _⟩ ?_
 clear J1 J2 J3 JB
 rintro W3 ⟨⟨H1,H2,HB⟩,H3⟩
 obtain ⟨k0,k1,k2⟩:=H1.gX
 obtain ⟨k3,k4,k5⟩:=H2.gX
 refine iC 16 (by kernel_rfl) (by kernel_rfl) ?_
 simp only [List.take_succ_cons,List.take_zero,List.drop_succ_cons,List.drop_zero]
 repeat (first|go_big_quiet_skip|quiet_step (first|with_reducible exact Calls.later (HD.out.dp _)|with_reducible exact Calls.later (HD.out.dq _)|with_reducible exact Calls.later (HD.out.mx _)|with_reducible exact Calls.later (HD.out.my _)|with_reducible exact Calls.later (HD.out.rd _)))
 clear k0 k1 k2 k3 k4 k5
 refine wpQuiet_nil ?_
 intro W5 hb5
 have HB:=jx (chain HB hb5 jp)
 have H2:=jx (H3.on hb5)
 obtain ⟨a0,a1,a2,a3,a4,a5⟩:=H2.out.bC
 clear hb5 H3 H1
 go_wp2
 refine aC (fun W=>bY W (w.heap.size+1+1) #[.bool r1,.string r2,.string r3]∧Below w.heap.size w W) ⟨by exact bY.jE H2.out _ _ _,aQ HB.out jb _ _ _⟩ ?_
 rintro WR ⟨jk,bD⟩
 obtain ⟨y90,y91,jM,-,-,-⟩:=jk.bC
 exact bodyPost_ret (v:=.agg #[.bool r1,.string r2,.string r3]) (by simp [results,Tryz.results22,go_sem,y90,y91,jM]) rfl ⟨rfl,bD⟩
structure arF (p1:Bool) (p2 p3:ByteArray) (q1:Bool) (q2 q3:ByteArray) (P1 P2 X Y:ByteArray) (r1:Bool) (r2 r3:ByteArray) (ok:Bool):Prop where
 dp : ∀ w,Calls Tryz.prog 38 #[.agg #[.bool p1,.string p2,.string p3]] w fun e w'=>e = .returned (.string P1)∧Below w.heap.size w w'
 dq : ∀ w,Calls Tryz.prog 38 #[.agg #[.bool q1,.string q2,.string q3]] w fun e w'=>e = .returned (.string P2)∧Below w.heap.size w w'
 mx : ∀ w,Calls Tryz.prog 37 #[.string p2,.string P2] w fun e w'=>e = .returned (.string X)∧Below w.heap.size w w'
 my : ∀ w,Calls Tryz.prog 37 #[.string P1,.string q2] w fun e w'=>e = .returned (.string Y)∧Below w.heap.size w w'
 mke : ∀ w,Calls Tryz.prog 141 #[.bool (!(p1 == q1)),.string X,.string Y] w fun e w'=>e = .returned (.tuple #[.agg #[.bool r1,.string r2,.string r3],.bool ok])∧Below w.heap.size w w'
def xB (p q:Rat):Rat:=if q=0 then 0 else p/q
def okR (q:Rat):Bool:=!decide (q=0)
theorem ahd (p q:Rat) (k l:Nat) (hp:Sm k p) (hq:Sm l q) (hkl:k+l≤1073741824) :
  arF (rn p) (rs p) (rd p) (rn q) (rs q) (rd q) (bn p.den) (bn q.den) (bn (nm p*q.den)) (bn (p.den*nm q)) (rn (xB p q)) (rs (xB p q)) (rd (xB p q)) (okR q):=by
 have h1:=iW hp.1 hq.2
 have h2:=iW hp.2 hq.1
 refine ⟨fun w=>uP p w,fun w=>uP q w,fun w=>nS _ _ k l w hp.1 hq.2 jb jb,fun w=>nS _ _ k l w hp.2 hq.1 jb jb,fun w=>?_⟩
 by_cases h:q=0
 ·have hy:p.den*nm q=0:=by rw [nO.mpr h,Nat.mul_zero]
  have:=Yt (rn p != rn q) (bn (nm p*q.den)) (bn (p.den*nm q)) w (lu h2 hkl) (by rw [bK,hy])
  unfold xB okR
  rw [if_pos h,decide_eq_true h]
  exact this
 ·have hy:0<p.den*nm q:=Nat.mul_pos p.den_pos (Nat.pos_of_ne_zero fun e=>h (nO.mp e))
  have:=SQ (rn p != rn q) (bn (nm p*q.den)) (bn (p.den*nm q)) w (lu h1 hkl) (lu h2 hkl) (by rw [bK];exact hy)
  rw [bK,bK,← OM h] at this
  unfold xB okR
  rw [if_neg h,decide_eq_false h]
  exact this
theorem Ji (n1:Bool) (s1 d1:ByteArray) (n2:Bool) (s2 d2:ByteArray) (w:World) (h1:s1.size+d1.size≤268435456) (h2:s2.size+d2.size≤268435456) :
  Calls Tryz.prog 108 #[.agg #[.bool n1,.string s1,.string d1],.agg #[.bool n2,.string s2,.string d2]] w fun e w'=>e = .returned (Ru (xB (rq n1 s1 d1) (rq n2 s2 d2)) (okR (rq n2 s2 d2)))∧Below w.heap.size w w':=by
 have SS:=jx (fun w=>iw n1 s1 d1 w jb jb)
 have HC2:=jx (fun w=>iw n2 s2 d2 w jb jb)
 have Et:=ahd _ _ _ _ (vI n1 s1 d1) (vI n2 s2 d2) jb
 generalize rq n1 s1 d1=p at *
 generalize rq n2 s2 d2=q at *
 unfold Ru
 generalize okR q=ok at *
 generalize rn (xB p q)=r1 at *
 generalize rs (xB p q)=r2 at *
 generalize rd (xB p q)=r3 at *
 generalize bn (nm p*q.den)=X at *
 generalize bn (p.den*nm q)=Y at *
 generalize bn p.den=P1 at *
 generalize bn q.den=P2 at *
 generalize rn p=p1 at *
 generalize rs p=p2 at *
 generalize rd p=p3 at *
 generalize rn q=q1 at *
 generalize rs q=q2 at *
 generalize rd q=q3 at *
 have HD:=jx Et
 clear Et
 go_enter Tryz.func108,Tryz.ntmps108
 go_wp2
 refine dU (fun W=>bY W w.heap.size #[.bool n1,.string s1,.string d1]∧bY W (w.heap.size+1) #[.bool n2,.string s2,.string d2]∧bY W (w.heap.size+1+1) #[.bool false,.string ⟨#[]⟩,.string ⟨#[]⟩]∧Below w.heap.size w W) (ql w _ _ _ _ _ _) ?_
 rintro W ⟨H1,H2,H3,HB⟩
 obtain ⟨k0,k1,k2⟩:=H1.gX
 obtain ⟨k3,k4,k5⟩:=H2.gX
 refine iC 4 (by kernel_rfl) (by kernel_rfl) ?_
 simp only [List.take_succ_cons,List.take_zero,List.drop_succ_cons,List.drop_zero]
 repeat (first|go_big_quiet_skip|quiet_step (first|with_reducible exact Calls.later (SS.out _)|with_reducible exact Calls.later (HC2.out _)))
 clear k0 k1 k2 k3 k4 k5
 refine wpQuiet_nil ?_
 intro W1 hb1
 have J1:=jx (H1.on hb1)
 have J2:=jx (H2.on hb1)
 have J3:=jx (H3.on hb1)
 have JB:=jx (chain HB hb1 jp)
 clear H1 H2 H3 HB hb1
 obtain ⟨a0,a1,a2,a3,a4,a5⟩:=J1.out.bC
 obtain ⟨b0,b1,b2,b3,b4,b5⟩:=J2.out.bC
 go_wp2
 clear a0 a1 a2 a3 a4 a5 b0 b1 b2 b3 b4 b5
 refine dU (fun W=>(bY W w.heap.size #[.bool p1,.string p2,.string p3]∧bY W (w.heap.size+1) #[.bool q1,.string q2,.string q3]∧Below w.heap.size w W)∧bY W (w.heap.size+1+1) #[.bool false,.string ⟨#[]⟩,.string ⟨#[]⟩]) ⟨Bd _ _ _ _ _ _ J1.out J2.out JB.out jb jp jb,(J3.out.su jb _ _ _).su jb _ _ _⟩ ?_
 clear J1 J2 J3 JB
 rintro W3 ⟨⟨H1,H2,HB⟩,H3⟩
 obtain ⟨k0,k1,k2⟩:=H1.gX
 obtain ⟨k3,k4,k5⟩:=H2.gX
 refine iC 18 (by kernel_rfl) (by kernel_rfl) ?_
 simp only [List.take_succ_cons,List.take_zero,List.drop_succ_cons,List.drop_zero]
 repeat (first|go_big_quiet_skip|quiet_step (first|with_reducible exact Calls.later (HD.out.dp _)|with_reducible exact Calls.later (HD.out.dq _)|with_reducible exact Calls.later (HD.out.mx _)|with_reducible exact Calls.later (HD.out.my _)|with_reducible exact Calls.later (HD.out.mke _)))
 clear k0 k1 k2 k3 k4 k5
 refine wpQuiet_nil ?_
 intro W5 hb5
 have HB:=jx (chain HB hb5 jp)
 have H2:=jx (H3.on hb5)
 obtain ⟨a0,a1,a2,a3,a4,a5⟩:=H2.out.bC
 clear hb5 H3 H1
 go_wp2
 refine aC (fun W=>bY W (w.heap.size+1+1) #[.bool r1,.string r2,.string r3]∧Below w.heap.size w W) ⟨by exact bY.jE H2.out _ _ _,aQ HB.out jb _ _ _⟩ ?_
 rintro WR ⟨jk,bD⟩
 obtain ⟨y90,y91,jM,-,-,-⟩:=jk.bC
 exact bodyPost_ret (v:=.tuple #[.agg #[.bool r1,.string r2,.string r3],.bool ok]) (by simp [results,Tryz.results108,go_sem,y90,y91,jM]) rfl ⟨rfl,bD⟩
def Jj (p q:Rat):Rat:=if lY p q≤0 then p else q
theorem Yv (n1:Bool) (s1 d1:ByteArray) (n2:Bool) (s2 d2:ByteArray) (w:World) (h1:s1.size+d1.size≤268435456) (h2:s2.size+d2.size≤268435456) :
  Calls Tryz.prog 128 #[.agg #[.bool n1,.string s1,.string d1],.agg #[.bool n2,.string s2,.string d2]] w fun e w'=>e = .returned (rv (Jj (rq n1 s1 d1) (rq n2 s2 d2)))∧Below w.heap.size w w':=by
 have SS:=jx (fun w=>iw n1 s1 d1 w jb jb)
 have HC2:=jx (fun w=>iw n2 s2 d2 w jb jb)
 have Et:=jx (fun w=>uS n1 s1 d1 n2 s2 d2 w h1 h2)
 generalize rq n1 s1 d1=p at *
 generalize rq n2 s2 d2=q at *
 unfold rv Jj
 generalize lY p q=c at *
 by_cases hc:c≤0
 ·rw [if_pos hc]
  generalize rn p=p1 at *
  generalize rs p=p2 at *
  generalize rd p=p3 at *
  as_aux_lemma =>
  go_enter Tryz.func128,Tryz.ntmps128
  go_wp2_with fail
  refine (Et.out _).mono ?_;rintro e w3 ⟨rfl,hb3⟩
  obtain ⟨H1,H2,H3,HB⟩:=IL hb3
  obtain ⟨a0,a1,a2,a3,a4,a5⟩:=H1.bC
  have H3:=jx H3
  clear hb3 H1 H2
  go_wp2_with fail
  refine (SS.out _).mono ?_;rintro e w4 ⟨rfl,hb4⟩
  have HB:=jx (chain HB hb4 jp)
  have H2:=jx (H3.out.on hb4)
  obtain ⟨b0,b1,b2,b3,b4,b5⟩:=H2.out.bC
  clear hb4 H3 a0 a1 a2 a3 a4 a5
  go_wp2
  refine aC (fun W=>bY W (w.heap.size+1+1) #[.bool p1,.string p2,.string p3]∧Below w.heap.size w W) ⟨by exact bY.jE H2.out _ _ _,aQ HB.out jb _ _ _⟩ ?_
  rintro WR ⟨jk,bD⟩
  obtain ⟨y90,y91,jM,-,-,-⟩:=jk.bC
  exact bodyPost_ret (v:=.agg #[.bool p1,.string p2,.string p3]) (by simp [results,Tryz.results128,go_sem,y90,y91,jM]) rfl ⟨rfl,bD⟩
 ·rw [if_neg hc]
  generalize rn q=p1 at *
  generalize rs q=p2 at *
  generalize rd q=p3 at *
  have hc2:decide (c≤0)=false:=by simp;omega
  clear hc
  as_aux_lemma =>
  go_enter Tryz.func128,Tryz.ntmps128
  go_wp2_with fail
  refine (Et.out _).mono ?_;rintro e w3 ⟨rfl,hb3⟩
  obtain ⟨H1,H2,H3,HB⟩:=IL hb3
  obtain ⟨a0,a1,a2,a3,a4,a5⟩:=H2.bC
  have H3:=jx H3
  clear hb3 H1 H2
  go_wp2_with fail
  refine (HC2.out _).mono ?_;rintro e w4 ⟨rfl,hb4⟩
  have HB:=jx (chain HB hb4 jp)
  have H2:=jx (H3.out.on hb4)
  obtain ⟨b0,b1,b2,b3,b4,b5⟩:=H2.out.bC
  clear hb4 H3 a0 a1 a2 a3 a4 a5
  go_wp2
  refine aC (fun W=>bY W (w.heap.size+1+1) #[.bool p1,.string p2,.string p3]∧Below w.heap.size w W) ⟨by exact bY.jE H2.out _ _ _,aQ HB.out jb _ _ _⟩ ?_
  rintro WR ⟨jk,bD⟩
  obtain ⟨y90,y91,jM,-,-,-⟩:=jk.bC
  exact bodyPost_ret (v:=.agg #[.bool p1,.string p2,.string p3]) (by simp [results,Tryz.results128,go_sem,y90,y91,jM]) rfl ⟨rfl,bD⟩
def Am (p q:Rat):Rat:=if 0≤lY p q then p else q
theorem Yw (n1:Bool) (s1 d1:ByteArray) (n2:Bool) (s2 d2:ByteArray) (w:World) (h1:s1.size+d1.size≤268435456) (h2:s2.size+d2.size≤268435456) :
  Calls Tryz.prog 58 #[.agg #[.bool n1,.string s1,.string d1],.agg #[.bool n2,.string s2,.string d2]] w fun e w'=>e = .returned (rv (Am (rq n1 s1 d1) (rq n2 s2 d2)))∧Below w.heap.size w w':=by
 have SS:=jx (fun w=>iw n1 s1 d1 w jb jb)
 have HC2:=jx (fun w=>iw n2 s2 d2 w jb jb)
 have Et:=jx (fun w=>uS n1 s1 d1 n2 s2 d2 w h1 h2)
 generalize rq n1 s1 d1=p at *
 generalize rq n2 s2 d2=q at *
 unfold rv Am
 generalize lY p q=c at *
 by_cases hc:0≤c
 ·rw [if_pos hc]
  generalize rn p=p1 at *
  generalize rs p=p2 at *
  generalize rd p=p3 at *
  as_aux_lemma =>
  go_enter Tryz.func58,Tryz.ntmps58
  go_wp2_with fail
  refine (Et.out _).mono ?_;rintro e w3 ⟨rfl,hb3⟩
  obtain ⟨H1,H2,H3,HB⟩:=IL hb3
  obtain ⟨a0,a1,a2,a3,a4,a5⟩:=H1.bC
  have H3:=jx H3
  clear hb3 H1 H2
  go_wp2_with fail
  refine (SS.out _).mono ?_;rintro e w4 ⟨rfl,hb4⟩
  have HB:=jx (chain HB hb4 jp)
  have H2:=jx (H3.out.on hb4)
  obtain ⟨b0,b1,b2,b3,b4,b5⟩:=H2.out.bC
  clear hb4 H3 a0 a1 a2 a3 a4 a5
  go_wp2
  refine aC (fun W=>bY W (w.heap.size+1+1) #[.bool p1,.string p2,.string p3]∧Below w.heap.size w W) ⟨by exact bY.jE H2.out _ _ _,aQ HB.out jb _ _ _⟩ ?_
  rintro WR ⟨jk,bD⟩
  obtain ⟨y90,y91,jM,-,-,-⟩:=jk.bC
  exact bodyPost_ret (v:=.agg #[.bool p1,.string p2,.string p3]) (by simp [results,Tryz.results58,go_sem,y90,y91,jM]) rfl ⟨rfl,bD⟩
 ·rw [if_neg hc]
  generalize rn q=p1 at *
  generalize rs q=p2 at *
  generalize rd q=p3 at *
  have hc2:decide (0≤c)=false:=by simp;omega
  clear hc
  as_aux_lemma =>
  go_enter Tryz.func58,Tryz.ntmps58
  go_wp2_with fail
  refine (Et.out _).mono ?_;rintro e w3 ⟨rfl,hb3⟩
  obtain ⟨H1,H2,H3,HB⟩:=IL hb3
  obtain ⟨a0,a1,a2,a3,a4,a5⟩:=H2.bC
  have H3:=jx H3
  clear hb3 H1 H2
  go_wp2_with fail
  refine (HC2.out _).mono ?_;rintro e w4 ⟨rfl,hb4⟩
  have HB:=jx (chain HB hb4 jp)
  have H2:=jx (H3.out.on hb4)
  obtain ⟨b0,b1,b2,b3,b4,b5⟩:=H2.out.bC
  clear hb4 H3 a0 a1 a2 a3 a4 a5
  go_wp2
  refine aC (fun W=>bY W (w.heap.size+1+1) #[.bool p1,.string p2,.string p3]∧Below w.heap.size w W) ⟨by exact bY.jE H2.out _ _ _,aQ HB.out jb _ _ _⟩ ?_
  rintro WR ⟨jk,bD⟩
  obtain ⟨y90,y91,jM,-,-,-⟩:=jk.bC
  exact bodyPost_ret (v:=.agg #[.bool p1,.string p2,.string p3]) (by simp [results,Tryz.results58,go_sem,y90,y91,jM]) rfl ⟨rfl,bD⟩
end Go.Proofs.Ins
