/- What each law's row wants of its walk. -/
import Derived.Test.YtjonjhcaniinaaaGreatDoorZ9
import Derived.OrdersHeld
import Derived.LaidMore
import Derived.Stop.Joined
import Derived.Test.YtjonjhcaniinaaaGreatDoorCards
import Derived.Lay
import Derived.SevenTiedAt
set_option linter.unusedSimpArgs false
set_option linter.unusedVariables false
set_option maxHeartbeats 8000000
namespace Go.Proofs.Ins
open Go.RowKit
def ltB (p q:Rat):Bool:=decide (p<q)
def apo (p q:Rat):Rat:=if q<p then q else p
set_option maxRecDepth 100000 in
theorem size_any (i:Int) (w:World) (h1 : -9223372036854775808≤i) (h2:i≤9223372036854775807) :
  Calls Tryz.prog 120 #[.int .i64 i] w fun e w'=>e = .returned (.int .u64 (i.natAbs:Int))∧w=w':=by
 by_cases h:i<0
 ·have e1:IntKind.u64.wrap (IntKind.u64.wrap (-(i+1))+1)=((i.natAbs:Nat):Int):=by
   simp only [IntKind.wrap,IntKind.bits,IntKind.signed];simp;omega
  have HE:=Lib.hid e1
  have h3 : -(i+1)≤9223372036854775807:=by omega
  have h4:0≤-(i+1):=by omega
  have h5 : -(i+1)+1=(i.natAbs:Int):=by omega
  have HF:=Lib.hid h5
  clear h5 e1
  go_enter Tryz.func120,Tryz.ntmps120
  go_wp2
  go_ret
  exact ⟨aS (by first|exact HF.out|exact HE.out|omega),rfl⟩
 ·have e1:i=((i.natAbs:Nat):Int):=by omega
  have HE:=Lib.hid e1
  have h0:0≤i:=by omega
  clear e1
  go_enter Tryz.func120,Tryz.ntmps120
  go_wp2
  go_ret
  exact ⟨aS (by omega),rfl⟩
set_option maxRecDepth 100000 in
theorem aaL (i:Int) (w:World) (h1 : -9223372036854775808≤i) (h2:i≤9223372036854775807) :
  Calls Tryz.prog 84 #[.int .i64 i] w fun e w'=>e = .returned (.agg #[.bool (rn (i:Rat)),.string (rs (i:Rat)),.string (rd (i:Rat))])∧Below w.heap.size w w':=by
 have e1:rn (i:Rat)=decide (i<0):=rfl
 have e2:rs (i:Rat)=bn i.natAbs:=rfl
 have e3:rd (i:Rat)=⟨#[]⟩:=rfl
 rw [e1,e2,e3]
 have HS:=Lib.hid (fun w=>size_any i w h1 h2)
 have HF:=Lib.hid (fun w=>sS i.natAbs w (by omega))
 generalize bn i.natAbs=t at *
 generalize (i.natAbs:Int)=j at *
 clear e1 e2 e3
 go_enter Tryz.func84,Tryz.ntmps84
 go_wp2_with fail
 refine (HS.out _).mono ?_;rintro e w3 ⟨rfl,rfl⟩
 go_wp2_with fail
 refine (HF.out _).mono ?_;rintro e w3 ⟨rfl,hb3⟩
 obtain ⟨H2,HB⟩:=fD hb3
 obtain ⟨b0,b1,b2,f0,f1,f2⟩:=H2.aY
 have HB:=Lib.hid HB
 have H2:=Lib.hid H2
 clear hb3
 go_wp2
 refine aB (fun W=>bU W (w.heap.size) #[.bool (decide (i<0)),.string t,.string ⟨#[]⟩]∧Below w.heap.size w W) ⟨by exact bU.jf H2.out _ _ _,aJ HB.out (by omega) _ _ _⟩ ?_
 rintro WR ⟨iU,aZ⟩
 obtain ⟨y90,y91,jo,-,-,-⟩:=iU.aY
 exact bodyPost_ret (v:=.agg #[.bool (decide (i<0)),.string t,.string ⟨#[]⟩]) (by simp [results,Tryz.results84,go_sem,y90,y91,jo]) rfl ⟨rfl,aZ⟩
set_option maxRecDepth 100000 in
theorem X9 (neg:Bool) (a b:ByteArray) (w:World) (ha:a.size≤134217720) (hb:b.size≤134217720) (h0:0<nv b) :
  Calls Tryz.prog 121 #[.bool neg,.string a,.string b] w fun e w'=>e = .returned (OC (fr neg (nv a) (nv b)) true)∧Below w.heap.size w w':=by
 have HL:=Lib.hid (fun w=>Gu b w (by omega))
 have HA:=Lib.hid (fun w=>Gu a w (by omega))
 have ka:nv a<256 ^ (a.size+b.size):=Nat.lt_of_lt_of_le (DN a) (Nat.pow_le_pow_right (by omega) (by omega))
 have kb:nv b<256 ^ (a.size+b.size):=Nat.lt_of_lt_of_le (DN b) (Nat.pow_le_pow_right (by omega) (by omega))
 have KA:=Lib.hid ka
 have KB:=Lib.hid kb
 have HR:=Lib.hid (fun w ax lx cx ay ly cy h1 h2=>MR neg ax ay lx ly cx cy (nv a) (nv b) (a.size+b.size) w h1 h2 h0 ka kb (by omega))
 unfold OC
 generalize fr neg (nv a) (nv b)=r at *
 generalize rn r=r1 at *
 generalize rs r=r2 at *
 generalize rd r=r3 at *
 generalize nv a=x at *
 generalize nv b=y at *
 clear ka kb
 go_enter Tryz.func121,Tryz.ntmps121
 go_wp2_with fail
 refine (HL.out _).mono ?_;rintro e w3 ⟨ad,ld,cd,rfl,u1,u2,c3,c4⟩
 have hl:ld≠0:=fun e=>by have:=c3.gY.mpr e;omega
 have hl0:((ld:Int) == 0)=false:=by simp;omega
 have l3:=eF.lim (w:=w) c3 KB.out (by omega)
 obtain ⟨H2,HB⟩:=fD c4
 have D3:=Lib.hid c3
 have HB3:=Lib.hid HB
 have H3:=Lib.hid H2
 clear c3 c4 H2 HB hl
 go_wp2_with fail
 refine (HA.out _).mono ?_;rintro e w4 ⟨an,ln,cn,rfl,u3,u4,c3,c4⟩
 have l4:=eF.lim (w:=w) c3 KA.out (by omega)
 have N4:=Lib.hid c3
 have D4:=Lib.hid (D3.out.below c4 (Nat.le_refl _))
 have HB4:=Lib.hid (chain HB3.out c4 (Nat.le_refl _))
 have H4:=Lib.hid (H3.out.on c4)
 clear c3 c4 D3 HB3 H3
 go_wp2_with fail
 refine (HR.out _ _ _ _ _ _ _ ⟨u3,u4,by omega,N4.out⟩ ⟨u1,u2,by omega,D4.out⟩).mono ?_;rintro e w5 ⟨rfl,c4⟩
 have HB:=Lib.hid (chain HB4.out c4 (Nat.le_refl _))
 have H2:=Lib.hid (H4.out.on c4)
 obtain ⟨b0,b1,b2,f0,f1,f2⟩:=H2.out.aY
 clear c4 D4 N4 HB4 H4
 go_wp2
 refine aB (fun W=>bU W w.heap.size #[.bool r1,.string r2,.string r3]∧Below w.heap.size w W) ⟨by exact bU.jf H2.out _ _ _,aJ HB.out (by omega) _ _ _⟩ ?_
 rintro WR ⟨iU,aZ⟩
 obtain ⟨y90,y91,jo,-,-,-⟩:=iU.aY
 exact bodyPost_ret (v:=.tuple #[.agg #[.bool r1,.string r2,.string r3],.bool true]) (by simp [results,Tryz.results121,go_sem,y90,y91,jo]) rfl ⟨rfl,aZ⟩
theorem aaM (i j:Int) (hj:0<j):fr (!(decide (i<0) == decide (j<0))) i.natAbs j.natAbs=(i:Rat)/(j:Rat):=by
 have hj0:(j:Rat)≠0:=by
  intro e
  have:j=0:=by exact_mod_cast e
  omega
 rw [LX hj0]
 have e1:rn (i:Rat)=decide (i<0):=rfl
 have e2:rn (j:Rat)=decide (j<0):=rfl
 have e3:nm (i:Rat)=i.natAbs:=rfl
 have e4:nm (j:Rat)=j.natAbs:=rfl
 have e5:(i:Rat).den=1:=rfl
 have e6:(j:Rat).den=1:=rfl
 rw [e1,e2,e3,e4,e5,e6,Nat.mul_one,Nat.one_mul]
 rfl
set_option maxRecDepth 100000 in
theorem Ju (i j:Int) (w:World) (h1 : -9223372036854775808≤i) (h2:i≤9223372036854775807) (h3:0<j) (h4:j≤9223372036854775807) :
  Calls Tryz.prog 85 #[.int .i64 i,.int .i64 j] w fun e w'=>e = .returned (OC ((i:Rat)/(j:Rat)) true)∧Below w.heap.size w w':=by
 have hs1:(bn i.natAbs).size≤8:=jv (by omega)
 have hs2:(bn j.natAbs).size≤8:=jv (by omega)
 have hM : ∀ w,Calls Tryz.prog 121 #[.bool (!(decide (i<0) == decide (j<0))),.string (bn i.natAbs),.string (bn j.natAbs)] w fun e w'=>e = .returned (OC ((i:Rat)/(j:Rat)) true)∧Below w.heap.size w w':=fun w=>by
  have:=X9 (!(decide (i<0) == decide (j<0))) (bn i.natAbs) (bn j.natAbs) w (by omega) (by omega) (by rw [bJ];omega)
  rw [bJ,bJ,aaM i j h3] at this
  exact this
 have hj:decide (j<0)=false:=by simp;omega
 rw [hj] at hM
 have HS1:=Lib.hid (fun w=>size_any i w h1 h2)
 have HS2:=Lib.hid (fun w=>size_any j w (by omega) h4)
 have HF1:=Lib.hid (fun w=>sS i.natAbs w (by omega))
 have HF2:=Lib.hid (fun w=>sS j.natAbs w (by omega))
 have HM:=Lib.hid hM
 unfold OC at *
 generalize (i:Rat)/(j:Rat)=r at *
 generalize rn r=r1 at *
 generalize rs r=r2 at *
 generalize rd r=r3 at *
 generalize bn i.natAbs=t1 at *
 generalize bn j.natAbs=t2 at *
 generalize (i.natAbs:Int)=z1 at *
 generalize (j.natAbs:Int)=z2 at *
 clear hM
 have hnn:(!(decide (i<0) == false))=decide (i<0):=by cases decide (i<0) <;> rfl
 rw [hnn] at HM
 clear hnn
 by_cases hi:i<0
 ·rw [decide_eq_true hi] at HM
  as_aux_lemma =>
  go_enter Tryz.func85,Tryz.ntmps85
  go_wp2_with fail
  refine (HS1.out _).mono ?_;rintro e w3 ⟨rfl,rfl⟩
  go_wp2_with fail
  refine (HF1.out _).mono ?_;rintro e w3 ⟨rfl,c3⟩
  go_wp2_with fail
  refine (HS2.out _).mono ?_;rintro e w4 ⟨rfl,rfl⟩
  go_wp2_with fail
  refine (HF2.out _).mono ?_;rintro e w4 ⟨rfl,c4⟩
  go_wp2_with fail
  refine (HM.out _).mono ?_;rintro e w5 ⟨rfl,c5⟩
  obtain ⟨H2,HB⟩:=fD (chain (chain c3 c4 (Nat.le_refl _)) c5 (Nat.le_refl _))
  obtain ⟨b0,b1,b2,f0,f1,f2⟩:=H2.aY
  have HB:=Lib.hid HB
  have H2:=Lib.hid H2
  clear c3 c4 c5
  go_wp2
  refine aB (fun W=>bU W w.heap.size #[.bool r1,.string r2,.string r3]∧Below w.heap.size w W) ⟨by exact bU.jf H2.out _ _ _,aJ HB.out (by omega) _ _ _⟩ ?_
  rintro WR ⟨iU,aZ⟩
  obtain ⟨y90,y91,jo,-,-,-⟩:=iU.aY
  exact bodyPost_ret (v:=.tuple #[.agg #[.bool r1,.string r2,.string r3],.bool true]) (by simp [results,Tryz.results85,go_sem,y90,y91,jo]) rfl ⟨rfl,aZ⟩
 ·have hi3:=hi
  have hi2:0≤i:=by omega
  clear hi hi3
  as_aux_lemma =>
  go_enter Tryz.func85,Tryz.ntmps85
  go_wp2_with fail
  refine (HS1.out _).mono ?_;rintro e w3 ⟨rfl,rfl⟩
  go_wp2_with fail
  refine (HF1.out _).mono ?_;rintro e w3 ⟨rfl,c3⟩
  go_wp2_with fail
  refine (HS2.out _).mono ?_;rintro e w4 ⟨rfl,rfl⟩
  go_wp2_with fail
  refine (HF2.out _).mono ?_;rintro e w4 ⟨rfl,c4⟩
  go_wp2_with fail
  refine (HM.out _).mono ?_;rintro e w5 ⟨rfl,c5⟩
  obtain ⟨H2,HB⟩:=fD (chain (chain c3 c4 (Nat.le_refl _)) c5 (Nat.le_refl _))
  obtain ⟨b0,b1,b2,f0,f1,f2⟩:=H2.aY
  have HB:=Lib.hid HB
  have H2:=Lib.hid H2
  clear c3 c4 c5
  go_wp2
  refine aB (fun W=>bU W w.heap.size #[.bool r1,.string r2,.string r3]∧Below w.heap.size w W) ⟨by exact bU.jf H2.out _ _ _,aJ HB.out (by omega) _ _ _⟩ ?_
  rintro WR ⟨iU,aZ⟩
  obtain ⟨y90,y91,jo,-,-,-⟩:=iU.aY
  exact bodyPost_ret (v:=.tuple #[.agg #[.bool r1,.string r2,.string r3],.bool true]) (by simp [results,Tryz.results85,go_sem,y90,y91,jo]) rfl ⟨rfl,aZ⟩
set_option maxRecDepth 100000 in
theorem Ya (i j:Int) (w:World) (h1 : -9223372036854775808≤i) (h2:i≤9223372036854775807) (h3:0<j) (h4:j≤9223372036854775807) :
  Calls Tryz.prog 46 #[.int .i64 i,.int .i64 j] w fun e w'=>e = .returned (.agg #[.bool (rn ((i:Rat)/(j:Rat))),.string (rs ((i:Rat)/(j:Rat))),.string (rd ((i:Rat)/(j:Rat)))])∧Below w.heap.size w w':=by
 have HF:=Lib.hid (fun w=>Ju i j w h1 h2 h3 h4)
 unfold OC at HF
 generalize (i:Rat)/(j:Rat)=r at *
 generalize rn r=r1 at *
 generalize rs r=r2 at *
 generalize rd r=r3 at *
 go_enter Tryz.func46,Tryz.ntmps46
 go_wp2_with fail
 refine (HF.out _).mono ?_;rintro e w3 ⟨rfl,hb3⟩
 obtain ⟨H2,HB⟩:=fD hb3
 have z:=H2.lt
 obtain ⟨b0,b1,b2,f0,f1,f2⟩:=H2.aY
 have HB:=Lib.hid HB
 have H2:=Lib.hid H2
 clear hb3
 have q9:=aJ HB.out (Nat.le_refl _) (.bool r1) (.string r2) (.string r3)
 go_wp2
 refine aB (fun W=>bU W w.heap.size #[.bool r1,.string r2,.string r3]∧Below w.heap.size w W) ⟨by exact (bU.jf H2.out _ _ _).alloc _,by exact q9.alloc q9.size _⟩ ?_
 rintro WR ⟨iU,aZ⟩
 obtain ⟨y90,y91,jo,-,-,-⟩:=iU.aY
 exact bodyPost_ret (v:=.agg #[.bool r1,.string r2,.string r3]) (by simp [results,Tryz.results46,go_sem,y90,y91,jo]) rfl ⟨rfl,aZ⟩
set_option maxRecDepth 100000 in
theorem yx (i:Int) (w:World) (h1 : -9223372036854775808≤i) (h2:i≤9223372036854775807) :
  Calls Tryz.prog 45 #[.int .i64 i] w fun e w'=>e = .returned (.agg #[.bool (rn (i:Rat)),.string (rs (i:Rat)),.string (rd (i:Rat))])∧Below w.heap.size w w':=by
 have HF:=Lib.hid (fun w=>aaL i w h1 h2)
 generalize (i:Rat)=r at *
 generalize rn r=r1 at *
 generalize rs r=r2 at *
 generalize rd r=r3 at *
 go_enter Tryz.func45,Tryz.ntmps45
 go_wp2_with fail
 refine (HF.out _).mono ?_;rintro e w3 ⟨rfl,hb3⟩
 obtain ⟨H2,HB⟩:=fD hb3
 obtain ⟨b0,b1,b2,f0,f1,f2⟩:=H2.aY
 have HB:=Lib.hid HB
 have H2:=Lib.hid H2
 clear hb3
 go_wp2
 refine aB (fun W=>bU W (w.heap.size) #[.bool r1,.string r2,.string r3]∧Below w.heap.size w W) ⟨by exact bU.jf H2.out _ _ _,aJ HB.out (by omega) _ _ _⟩ ?_
 rintro WR ⟨iU,aZ⟩
 obtain ⟨y90,y91,jo,-,-,-⟩:=iU.aY
 exact bodyPost_ret (v:=.agg #[.bool r1,.string r2,.string r3]) (by simp [results,Tryz.results45,go_sem,y90,y91,jo]) rfl ⟨rfl,aZ⟩
def amt (x:Nat):Rat:=if x%5=0 then (((x/5%23:Nat):Int):Rat)/(((1+x/115%6:Nat):Int):Rat) else if x%5=1 then (((10*(x/5%4):Nat):Int):Rat) else (((x/5%13:Nat):Int):Rat)
theorem V3 {x:Nat} (h:x%5=0):amt x=(((x/5%23:Nat):Int):Rat)/(((1+x/115%6:Nat):Int):Rat):=by unfold amt;rw [if_pos h]
theorem aaN {x:Nat} (h:x%5=1):amt x=(((10*(x/5%4):Nat):Int):Rat):=by unfold amt;rw [if_neg (by omega),if_pos h]
theorem aaO {x:Nat} (h : ¬ x%5=0) (h1 : ¬ x%5=1):amt x=(((x/5%13:Nat):Int):Rat):=by unfold amt;rw [if_neg h,if_neg h1]
set_option maxRecDepth 100000 in
theorem TA (x:Nat) (w:World) (hx:x≤65535) :
  Calls Tryz.prog 24 #[.int .u16 (x:Int)] w fun e w'=>e = .returned (.agg #[.bool (rn (amt x)),.string (rs (amt x)),.string (rd (amt x))])∧Below w.heap.size w w':=by
 by_cases h:x%5=0
 ·have hF:=fun w=>Ya ((x/5%23:Nat):Int) ((1+x/115%6:Nat):Int) w (by omega) (by omega) (by omega) (by omega)
  rw [← V3 h,show ((x/5%23:Nat):Int)=(x:Int)/5%23 by omega,show ((1+x/115%6:Nat):Int)=1+(x:Int)/115%6 by omega] at hF
  have HF:=Lib.hid hF
  generalize amt x=r at *
  generalize rn r=r1 at *
  generalize rs r=r2 at *
  generalize rd r=r3 at *
  clear hF
  go_enter Tryz.func24,Tryz.ntmps24
  go_wp2_with fail
  refine (HF.out _).mono ?_;rintro e w3 ⟨rfl,hb3⟩
  obtain ⟨H2,HB⟩:=fD hb3
  obtain ⟨b0,b1,b2,f0,f1,f2⟩:=H2.aY
  have HB:=Lib.hid HB
  have H2:=Lib.hid H2
  clear hb3
  go_wp2
  refine aB (fun W=>bU W (w.heap.size) #[.bool r1,.string r2,.string r3]∧Below w.heap.size w W) ⟨by exact bU.jf H2.out _ _ _,aJ HB.out (by omega) _ _ _⟩ ?_
  rintro WR ⟨iU,aZ⟩
  obtain ⟨y90,y91,jo,-,-,-⟩:=iU.aY
  exact bodyPost_ret (v:=.agg #[.bool r1,.string r2,.string r3]) (by simp [results,Tryz.results24,go_sem,y90,y91,jo]) rfl ⟨rfl,aZ⟩
 ·by_cases h1:x%5=1
  ·have hF:=fun w=>yx ((10*(x/5%4):Nat):Int) w (by omega) (by omega)
   rw [← aaN h1,show ((10*(x/5%4):Nat):Int)=10*((x:Int)/5%4) by omega] at hF
   have HF:=Lib.hid hF
   generalize amt x=r at *
   generalize rn r=r1 at *
   generalize rs r=r2 at *
   generalize rd r=r3 at *
   clear hF
   go_enter Tryz.func24,Tryz.ntmps24
   go_wp2_with fail
   refine (HF.out _).mono ?_;rintro e w3 ⟨rfl,hb3⟩
   obtain ⟨H2,HB⟩:=fD hb3
   obtain ⟨b0,b1,b2,f0,f1,f2⟩:=H2.aY
   have HB:=Lib.hid HB
   have H2:=Lib.hid H2
   clear hb3
   go_wp2
   refine aB (fun W=>bU W (w.heap.size) #[.bool r1,.string r2,.string r3]∧Below w.heap.size w W) ⟨by exact bU.jf H2.out _ _ _,aJ HB.out (by omega) _ _ _⟩ ?_
   rintro WR ⟨iU,aZ⟩
   obtain ⟨y90,y91,jo,-,-,-⟩:=iU.aY
   exact bodyPost_ret (v:=.agg #[.bool r1,.string r2,.string r3]) (by simp [results,Tryz.results24,go_sem,y90,y91,jo]) rfl ⟨rfl,aZ⟩
  ·have hF:=fun w=>yx ((x/5%13:Nat):Int) w (by omega) (by omega)
   rw [← aaO h h1,show ((x/5%13:Nat):Int)=(x:Int)/5%13 by omega] at hF
   have HF:=Lib.hid hF
   have h3:((x:Int)%5 == 0)=false:=by simp;omega
   have h4:((x:Int)%5 == 1)=false:=by simp;omega
   generalize amt x=r at *
   generalize rn r=r1 at *
   generalize rs r=r2 at *
   generalize rd r=r3 at *
   clear hF
   go_enter Tryz.func24,Tryz.ntmps24
   go_wp2_with fail
   refine (HF.out _).mono ?_;rintro e w3 ⟨rfl,hb3⟩
   obtain ⟨H2,HB⟩:=fD hb3
   obtain ⟨b0,b1,b2,f0,f1,f2⟩:=H2.aY
   have HB:=Lib.hid HB
   have H2:=Lib.hid H2
   clear hb3
   go_wp2
   refine aB (fun W=>bU W (w.heap.size) #[.bool r1,.string r2,.string r3]∧Below w.heap.size w W) ⟨by exact bU.jf H2.out _ _ _,aJ HB.out (by omega) _ _ _⟩ ?_
   rintro WR ⟨iU,aZ⟩
   obtain ⟨y90,y91,jo,-,-,-⟩:=iU.aY
   exact bodyPost_ret (v:=.agg #[.bool r1,.string r2,.string r3]) (by simp [results,Tryz.results24,go_sem,y90,y91,jo]) rfl ⟨rfl,aZ⟩

section
variable {P:Program} {ops:Array Oper} {md:Region.Mode} {S:World→Prop} {Q:Exit→Act→World→Prop}
end
inductive V4 where
 | fin (qs:List Nat)
 | one (qs:List Nat) (i:Nat) (t:V4)
 | two (qs:List Nat) (i j:Nat) (t u:V4)
def V4.len:V4→Nat
 | .fin qs=>qs.length
 | .one qs _ t=>t.len+1+qs.length
 | .two qs _ _ t _=>t.len+1+qs.length
section
variable {P:Program} {ops:Array Oper} {md:Region.Mode} {S:World→Prop} {Q:Exit→Act→World→Prop}
end
structure ain (W:World) (X:Nat→Bool) where
 d:Nat
 heap:Array Obj
 size:W.heap.size≤heap.size
 block : ∀ k,k<W.heap.size→X k=false→heap[k]?=W.heap[k]?
def ain.w {W:World} {X:Nat→Bool} (p:ain W X):World:={ W with drawn:=p.d,heap:=p.heap }
instance (W:World) (X:Nat→Bool):Inhabited (ain W X):=⟨⟨0,W.heap,Nat.le_refl _,fun _ _ _=>rfl⟩⟩
def alF (w:World) (T:TypeId) (n sz:Nat) (F:Nat→List Value) (e:Ending) (w' : World):Prop :=
 ∃ v,e = .returned v∧jF w' w.heap.size T sz v n F∧Below w.heap.size w w'
def c16 (L:Nat→Nat) (i:Nat):List Value:=[.int .u16 (L i:Int)]
def lenOf:Value→Nat
 | .slice _ n _=>n
 | _=>0
end Go.Proofs.Ins
namespace Go.Proofs.Ins
open Go Go.RowKit Go.ChangeShapes Go.WideShapes Go.Deep
theorem LP.congr {w:World} {a:Option Addr} {n sz:Nat} {F G:Nat→List Value} (h:LP w a n sz F) (hg : ∀ i,i<n→F i=G i):LP w a n sz G:=by
 rcases h with h|⟨b,off,ha,hl,hr⟩
 ·exact .inl h
 ·exact .inr ⟨b,off,ha,hl,fun i j hi hj=>by rw [← hg i hi];exact hr i j hi hj⟩
section
variable {H:Type} {enc:TypeId×Value→H} {W:World} {sp:Nat→Bool} {held:Bool}
theorem aaP {fuel:Nat} {cs:List Value} {x:DataW H×List MemPlace} (h:DataW.trod enc Tryz.prog W 0 sp held fuel 22 cs=some x) (hL:Light Tryz.prog 22 x.1) :
  ∃ a n cap,∃ M:Nat→Nat,cs=[.slice a n cap]∧n≤140737488351232∧LP W a n 1 (c16 M)∧∀ i,i<n→M i≤65535:=by
 obtain ⟨a,n,cap,C,rfl,hn,hs,hx⟩:=BZ (k:=1) Tryz.underlying22 (by kernel_rfl) (by omega) (of_decide_eq_true (by kernel_rfl)) h hL
 obtain ⟨M,hM⟩:=choose_lt (α:=Nat) (p:=fun i m=>C i=[.int .u16 (m:Int)]∧m≤65535) (fun i hi=>by
  obtain ⟨_,n,y,h1,h2⟩:=hx i hi
  exact lJ h1)
 exact ⟨a,n,cap,M,rfl,hn,hs.congr fun i hi=>(hM i hi).1,fun i hi=>(hM i hi).2⟩
theorem yV {P:Program} (hl:laidOutB P=true) {W W' : World} (hb:Below W.heap.size W W') : ∀ {ts:List TypeId} {vs:List Value} {ds:List (DataW H)} {p:List MemPlace},
  (ts.all fun t=>P.readableRec t && decide (t<P.types.size))=true→DataW.TrodAll enc P W 0 (fun _=>true) true ts vs ds p→(∀ x∈p,x.block<W.heap.size)→DataW.TrodAll enc P W' 0 (fun b=>decide (b<W.heap.size)) true ts vs ds p
 | [],_,_,_,_,h,_=>by
  obtain ⟨rfl,rfl,rfl⟩:=trodAll_nil h
  exact h
 | t::ts,_,_,_,ht,h,hp=>by
  obtain ⟨v,vs1,d,ds1,a,b,rfl,rfl,rfl,h1,h2⟩:=trodAll_cons h
  simp only [List.all_cons,Bool.and_eq_true,decide_eq_true_eq] at ht
  exact ⟨a,b,Below.trod hl ht.1.1 ht.1.2 h1 hb (fun x hx=>hp x (List.mem_append_left _ hx)),yV hl hb ht.2 h2 (fun x hx=>hp x (List.mem_append_right _ hx)),rfl⟩
end
theorem laidOut' : laidOutB Tryz.prog=true:=by kernel_rfl
end Go.Proofs.Ins
namespace Go.Proofs.Ins
open Go Go.RowKit Go.ChangeShapes Go.WideShapes Go.ChangeAt Go.Proofs.YtjonjhcaniinaaaGreatDoor
theorem own' : ownKnob Tryz.prog.godebug=none:=by kernel_rfl
def V6 : List (String × DataW Unit) := [("unicode/utf8.acceptRanges", Rows.laid_unicode_utf8_acceptRanges), ("unicode/utf8.first", Rows.laid_unicode_utf8_first)]
section
variable {H:Type} {enc:TypeId×Value→H} {W:World}
theorem qp {P:Program} {r:Reach} {b:Nat} {t e:TypeId} {v:Value} {d:DataW H} {p:List MemPlace} {sp:Nat→Bool} {held:Bool} (ht:P.underlying t=some (.slice e)) (hv:Value.okWide P W r b t v) (h:DataW.Trod enc P W 0 sp held t v d p) :
  ∃ a n c f,v = .slice a n c∧DataW.trod enc P W 0 sp held f t [.slice a n c]=some (d,p):=by
 obtain ⟨a,n,c,rfl⟩:=okWide_slice ht hv
 obtain ⟨f,h⟩:=h
 exact ⟨a,n,c,f,rfl,h⟩
theorem aaQ {f:FuncId} {fn:Func} {s:ChangeSpec} {args:Array Value} {ds:List (DataW H)} {before:List MemPlace}
  (hs:s.vars=[]) (hr:fn.resultTypes = #[4]) (hfn:s.fn H (ds ++ []) = { results:=[.lit (.bool true)],args:=ds })
  (ht:(fn.params.toList.all fun t=>Tryz.prog.readableRec t && decide (t<Tryz.prog.types.size))=true)
  (hW:DataW.Whole enc Tryz.prog fn.params.toList s.vars false W args.toList ds [] before)
  (hw:Calls Tryz.prog f args W fun e w'=>e = .returned (.bool true)∧Below W.heap.size W w') :
  Calls Tryz.prog f args W fun e W'=>∃ v,e = .returned v∧s.post enc Tryz.prog fn false true false false W args v W':=by
 refine hw.mono fun e W' ⟨he,hB⟩=>?_
 subst he
 have hW':=hW
 obtain ⟨p,q,hA,hV,rfl,hfz,hnd⟩:=hW
 refine ⟨_,rfl,ds,[],p ++ q,[],p,[],hW',?_,?_,?_,hB.frame _,fun h=>by cases h⟩
 ·rw [hfn,hr]
  exact trodAll_mk1 (shut_bool Tryz.underlying4 _)
 ·rw [hfn]
  exact yV laidOut' hB ht hA (fun x hx=>hW'.lt x (List.mem_append_left _ hx))
 ·rw [hfn,hs]
  rfl
end
section
variable {H:Type} {enc:TypeId×Value→H} {W:World}
set_option maxRecDepth 100000 in
theorem an9 {r:Reach} {b:Nat} {v:Value} {d:DataW H} {p:List MemPlace} {sp:Nat→Bool} {held:Bool} (hv:Value.okWide Tryz.prog W r b 5 v) (h:DataW.Trod enc Tryz.prog W 0 sp held 5 v d p) :
  ∃ n:Nat,v = .int .u8 (n:Int)∧n≤255:=by
 obtain ⟨n,rfl,-,-,hw⟩:=open_int Tryz.underlying5 hv h
 have hw2:0≤n∧n≤255:=by simpa [Lit.wf,IntKind.min,IntKind.max,IntKind.signed,IntKind.bits] using hw
 exact ⟨n.toNat,by rw [Int.toNat_of_nonneg hw2.1],by omega⟩
end
end Go.Proofs.Ins
