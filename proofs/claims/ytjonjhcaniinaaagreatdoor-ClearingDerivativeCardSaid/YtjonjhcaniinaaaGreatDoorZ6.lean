/- The walks of rational: den, Valid, clean. -/
import Derived.Test.YtjonjhcaniinaaaGreatDoorZ5
set_option linter.all false
set_option maxRecDepth 100000
set_option maxHeartbeats 8000000
namespace Go.Proofs.Ins
open Go.RowKit
theorem ag3 (l:List UInt8) (k:Nat) (h : ∀ j,j<k→l.getD j 0=0):bv (l.drop k)=bv l:=by
 induction k generalizing l with
 | zero=>rfl
 | succ k ih =>
  cases l with
  | nil=>rfl
  | cons x l =>
   have hx:x=0:=by simpa using h 0 jb
   rw [List.drop_succ_cons,ih l (fun j hj=>by simpa using h (j+1) jb),ru,hx]
   simp
theorem CW (s:ByteArray) (k:Nat) (hk:k≤s.size) (h : ∀ j,j<k→s.data.toList.getD j 0=0) (h2:k=s.size∨s.data.toList.getD k 0≠0):s.extract k s.size=bn (nv s):=by
 have e:(s.extract k s.size).data.toList=s.data.toList.drop k:=by
  rw [Lib.extract_data,List.take_of_length_le]
  rw [List.length_drop,uI]
  exact jp
 have e2:nv (s.extract k s.size)=nv s:=by unfold nv;rw [e];exact ag3 _ _ h
 rw [← e2]
 symm
 apply Ef
 rw [e]
 rcases h2 with h2|h2
 ·rw [List.drop_eq_nil_of_le (by rw [uI];omega)];simp
 ·rw [List.head?_drop]
  rw [List.getD_eq_getElem?_getD] at h2
  intro h3
  rw [h3] at h2
  exact h2 rfl
theorem getD_eq (s:ByteArray) (k:Nat) (h:k<s.size):s.data.toList.getD k 0=s[k]'h:=by
 rw [List.getD_eq_getElem?_getD,List.getElem?_eq_getElem (by rw [uI];exact h)]
 rfl
theorem sU (s:ByteArray) (w:World) (hs:s.size≤9223372036854775000) :
  Calls Tryz.prog 174 #[.string s] w fun e w'=>e = .returned (.string (bn (nv s)))∧w=w':=by
 go_enter Tryz.func174,Tryz.ntmps174
 go_wp2
 go_loop [3] (fun v=>∃ k:Nat,v = .int .i64 k∧k≤s.size∧Hid (∀ j,j<k→s.data.toList.getD j 0=0)) (fun v=>s.size - (intOf v).toNat)
 case atStart=>exact ⟨0,rfl,jb,fun j hj=>jb⟩
 case round =>
  obtain ⟨k,rfl,hk,hz⟩:=hrel
  by_cases hlt:k<s.size
  ·have hgd:=jx (getD_eq s k hlt)
   by_cases h0:s[k].toNat=0
   ·have h0' : (s[k].toNat:Int)=0:=jb
    have HZ:=jx h0
    clear h0
    go_wp2
    go_round
    case rel=>exact ⟨k+1,by go_num,jb,fun j hj=>by
     by_cases e:j=k
     ·subst e;rw [hgd.out];exact UInt8.toNat_inj.mp (by rw [HZ.out];rfl)
     ·exact hz.out j jb⟩
    case measure=>simp [intOf];omega
   ·have h0' : ((s[k].toNat:Int) == 0)=false:=by simp;omega
    have hx:=jx (CW s k hk hz.out (.inr (by rw [hgd.out];intro e;rw [e] at h0;exact h0 rfl)))
    clear h0
    go_wp2
    go_ret
    exact ⟨rE hx.out,rfl⟩
  ·obtain rfl:k=s.size:=jb
   have hx:=jx (CW s s.size hk hz.out (.inl rfl))
   go_wp2
   go_ret
   exact ⟨rE (by rw [← hx.out];simp),rfl⟩
theorem Jb (b off len cap:Nat) (xs:Nat→Nat) (n:Nat) (w:World) (hl:len≤4294967296) (hcap:len≤cap)
  (hc : ∀ j,j<len→w.cell? ⟨b,off+j,none⟩=some (.int .u32 (xs j)))
  (hn:n≤len) (hz : ∀ j,n≤j→j<len→xs j=0) (hnz:n=0∨xs (n-1)≠0) :
  Calls Tryz.prog 173 #[.slice (some ⟨b,off,none⟩) len cap] w fun e w'=>e = .returned (.slice (some ⟨b,off,none⟩) n cap)∧w=w':=by
 go_enter Tryz.func173,Tryz.ntmps173
 go_wp2
 go_loop [3] (fun i=>∃ k:Nat,i = .int .i64 k∧n≤k∧k≤len) (fun i=>(intOf i).toNat)
 case atStart=>exact ⟨len,rfl,hn,jb⟩
 case round =>
  obtain ⟨k,rfl,h1,h2⟩:=hrel
  by_cases hk:k=n
  ·subst hk
   by_cases h0:k=0
   ·subst h0
    go_wp2
    go_ret
    exact ⟨rfl,rfl⟩
   ·have h3:xs (k-1)≠0:=jb
    have hcell:=hc (k-1) jb
    clear hc hz
    have hb:((xs (k-1):Int) == 0)=false:=by simp;omega
    go_wp2
    go_ret
    exact ⟨rfl,rfl⟩
  ·have hcell:=hc (k-1) jb
   have hz1:=hz (k-1) jb jb
   clear hc hz
   rw [hz1] at hcell
   clear hz1
   go_wp2
   go_round
   case rel=>exact ⟨k-1,by go_num,jb,jb⟩
   case measure=>simp [intOf];omega
theorem Ny (w0:World) (b len:Nat) (T:TypeId) (f:Nat→Nat) (w:World) (hl:len≤4294967296) (hr:Row w b T .u32 len f) (hf : ∀ j,j<len→f j<LB) (hbel:Below w0.heap.size w0 w) :
  Calls Tryz.prog 173 #[.slice (some ⟨b,0,none⟩) len len] w (dX w0 (lv f len)) :=
 (Jb b 0 len len f (yj f len) w hl jp hr.reads (lK f len) (vW f len) (yC f len)).mono (by
  rintro e w' ⟨rfl,rfl⟩
  refine ⟨_,_,_,rfl,lK f len,jb,⟨f,GX f len,Iy hf,?_⟩,hbel⟩
  exact .inr ⟨b,0,rfl,fun j hj=>hr.reads j (Nat.lt_of_lt_of_le hj (lK f len))⟩)
theorem LX {x:Nat} (h:0<(bn x).size):256 ^ ((bn x).size - 1)≤x:=by
 have h1:Gi x≠[]:=by
  intro e
  have:(bn x).size=(Gi x).length:=rfl
  rw [e] at this
  have h0:(bn x).size=0:=this
  omega
 have:=Nj (BP x) h1
 rw [Iz] at this
 exact this
theorem aav (x n:Nat) (h1:(bn x).size≤4*n) (h2:4*n≤(bn x).size+3):Can (pw (Gj (bn x)) (bn x).size) n∧lv (pw (Gj (bn x)) (bn x).size) n=x:=by
 have hv:lv (pw (Gj (bn x)) (bn x).size) n=x:=by rw [ajY _ h1,Vy,bK]
 refine ⟨⟨fun j _=>RH (wV _) _ j,?_⟩,hv⟩
 rcases Nat.eq_zero_or_pos n with e|e
 ·exact .inl e
 ·right
  intro h0
  obtain ⟨k,rfl⟩ : ∃ k,n=k+1:=⟨n - 1,jb⟩
  rw [Nat.add_sub_cancel] at h0
  rw [bP,h0,Nat.mul_zero,Nat.add_zero] at hv
  have h3:=yB (f:=pw (Gj (bn x)) (bn x).size) (n:=k) (fun j _=>RH (wV _) _ j)
  have h4:=LX (x:=x) jb
  have h5:LB ^ k≤256 ^ ((bn x).size - 1):=by rw [Eh];exact Nat.pow_le_pow_right jb jb
  omega
theorem Jc (s:ByteArray) (w:World) (hs:s.size≤1073741824) :
  Calls Tryz.prog 151 #[.string s] w (dX w (nv s)):=by
 have hsz:=mP s
 obtain ⟨t,ht⟩ : ∃ t,t=bn (nv s):=⟨_,rfl⟩
 have HN:Hid (∀ w,Calls Tryz.prog 174 #[.string s] w fun e w'=>e = .returned (.string t)∧w=w'):=by
  rw [ht];exact fun w=>sU s w jb
 rw [← ht] at hsz
 obtain ⟨n,hn1,hn2,hn⟩ : ∃ n,t.size≤4*n∧4*n≤t.size+3∧Hid (n=(t.size+3)/4):=⟨_,jb,jb,rfl⟩
 have HC:=jx (aav (nv s) n (by rw [← ht];exact hn1) (by rw [← ht];exact hn2))
 rw [← ht] at HC
 clear ht
 go_enter Tryz.func151,Tryz.ntmps151
 go_wp2_with fail
 refine (HN.out _).mono ?_;rintro e w' ⟨rfl,rfl⟩
 go_wp2_with (refine eX _ _ 135 138 .u32 4 n _ rfl rfl Tryz.underlying135 nP rfl rfl (by have:=hn.out;omega) jb jb ?_;intro w1 hr1 hb1 hz1)
 go_loopw [4] (fun i wr=>∃ k:Nat,i = .int .i64 k∧k≤t.size∧Row wr w.heap.size 138 .u32 n (pw (Gj t) k)∧Below w.heap.size w wr) (fun i _=>t.size - (intOf i).toNat)
 case atStart=>exact ⟨0,rfl,jb,hr1.congr (fun j _=>(OC _ _).symm),hb1⟩
 case round =>
  obtain ⟨k,rfl,hk,hrow,hbel⟩:=hrel
  clear hr1 hb1 hz1
  by_cases hlt:k<t.size
  ·have hcell:=hrow.cell (j:=k/4) jb
   have hfr:=hrow.frozen (k/4)
   go_wp2
   have q2:((k:Int)/4).toNat=k/4:=jb
   have q9:((t.size:Int) - 1 - k).toNat=t.size - 1 - k:=jb
   refine wp_region_still_tail 23 (by kernel_rfl) (by kernel_rfl) ?_
   simp only [List.take_succ_cons,List.take_zero,List.drop_succ_cons,List.drop_zero]
   repeat (refine wpStill_step (fun K hK=>?_);go_simp;(try simp (disch:=omega) only [Ed]);(first|(refine hK _ ?_;clear hK K)|(simp (disch:=omega) only [if_pos,dif_pos,if_neg,dif_neg,Ed];go_simp;refine hK _ ?_;clear hK K)))
   refine wpStill_nil ?_
   change wpList _ _ _ _ _ (World.drew _)
   go_wp2
   go_round
   case rel =>
    refine ⟨k+1,by go_num,jb,?_,(hbel.setCell jp _).drew⟩
    have hb:=wV t k
    have hx:=acw (wV t) k
    have hy:=RH (wV t) (k+1) (k/4)
    rw [BR,upd_same] at hy
    rw [acv t k jb]
    have e1:((Gj t k:Int)%4294967296)=(Gj t k:Int):=jb
    have e2:(Gj t k:Int)*2 ^ (8*(k%4))%4294967296=(Gj t k:Int)*2 ^ (8*(k%4)):=by
     have:Gj t k*2 ^ (8*(k%4))<4294967296:=by unfold LB at hy;omega
     have h3:(Gj t k:Int)*2 ^ (8*(k%4))=((Gj t k*2 ^ (8*(k%4)):Nat):Int):=by push_cast;rfl
     rw [h3];omega
    rw [e1,e2,VB _ _ _ hx hy]
    exact (hrow.set (k/4) _).drew.congr fun j _=>(BR _ _ _).symm
   case measure=>simp [intOf];omega
  ·obtain rfl:k=t.size:=jb
   have HR:=jx hrow
   clear hrow
   go_wp2
   go_ret
   exact ⟨_,n,n,rfl,jp,jb,⟨_,HC.out.2,HC.out.1,.inr ⟨_,0,rfl,HR.out.reads⟩⟩,hbel⟩
theorem acY (a b:Option Addr) (la lb ca cb:Nat) (w:World) (h:la<lb) (h2:lb≤4294967296) :
  Calls Tryz.prog 193 #[.slice a la ca,.slice b lb cb] w fun e w'=>e = .returned (.int .i64 (-1))∧w=w':=by
 have HL2:((la:Int) != (lb:Int))=true:=by simp;omega
 have HL3:decide (la<lb)=true:=by simp;omega
 go_enter Tryz.func193,Tryz.ntmps193
 go_wp2
 go_ret
 exact ⟨rfl,rfl⟩
theorem acZ (a b:Option Addr) (la lb ca cb:Nat) (w:World) (h:lb<la) (h2:la≤4294967296) :
  Calls Tryz.prog 193 #[.slice a la ca,.slice b lb cb] w fun e w'=>e = .returned (.int .i64 1)∧w=w':=by
 have HL2:((la:Int) != (lb:Int))=true:=by simp;omega
 have HL3:decide (la<lb)=false:=by simp;omega
 go_enter Tryz.func193,Tryz.ntmps193
 go_wp2
 go_ret
 exact ⟨rfl,rfl⟩
theorem V5 (a b:Option Addr) (ca cb:Nat) (w:World) :
  Calls Tryz.prog 193 #[.slice a 0 ca,.slice b 0 cb] w fun e w'=>e = .returned (.int .i64 0)∧w=w':=by
 go_enter Tryz.func193,Tryz.ntmps193
 go_wp2
 go_loop [5] (fun v=>v = .int .i64 (-1)) (fun _=>0)
 case atStart=>exact rfl
 case round =>
  subst hrel
  go_wp2
  go_ret
  exact ⟨rfl,rfl⟩
set_option maxRecDepth 100000 in
theorem V6 (b1 o1 b2 o2 n c1 c2:Nat) (f g:Nat→Nat) (w:World) (hn:n≤4294967296) (hn0:0<n) (hf:Reads w b1 o1 .u32 n f) (hg:Reads w b2 o2 .u32 n g)
  (lf : ∀ j,j<n→f j<LB) (lg : ∀ j,j<n→g j<LB) :
  Calls Tryz.prog 193 #[.slice (some ⟨b1,o1,none⟩) n c1,.slice (some ⟨b2,o2,none⟩) n c2] w fun e w'=>e = .returned (.int .i64 (kS (lv f n) (lv g n)))∧Below w.heap.size w w':=by
 have Hlf:=Lib.hid lf
 have Hlg:=Lib.hid lg
 have Hf:=Lib.hid hf
 have Hg:=Lib.hid hg
 clear lf lg hf hg
 go_enter Tryz.func193,Tryz.ntmps193
 go_wp2
 go_loopw [5] (fun v wr=>∃ i:Int,v = .int .i64 i∧-1≤i∧i<n∧Hid (∀ j:Nat,i<j→j<n→f j=g j)∧∃ q,wr=w.drewN q) (fun v _=>(intOf v+1).toNat)
 case atStart=>exact ⟨(n:Int) - 1,rfl,by omega,by omega,fun j h1 h2=>by omega,0,rfl⟩
 case round =>
  obtain ⟨i,rfl,hi1,hi2,hall,q,rfl⟩:=hrel
  by_cases h0:i = -1
  ·subst h0
   have he:lv f n=lv g n:=lX fun j hj=>hall.out j (by omega) hj
   have HE:=Lib.hid he
   clear he
   go_wp2
   go_ret
   exact ⟨aW (by rw [HE.out,GY]),below_drewN (Below.refl _ _) q⟩
  ·obtain ⟨m,rfl⟩:=Int.eq_ofNat_of_zero_le (show 0≤i by omega)
   have hm:(m:Int)<n:=hi2
   have hc1:=Hf.out m (by omega)
   have hc2:=Hg.out m (by omega)
   rcases (show f m<g m∨g m<f m∨f m=g m by omega) with h|h|h
   ·have t1:((f m:Int) != (g m:Int))=true:=by simp;omega
    have t2:((f m:Int)<(g m:Int)):=by omega
    have HR:=Lib.hid (qZ Hlf.out Hlg.out (show m<n by omega) (fun j h1 h2=>hall.out j (by omega) h2) h)
    go_wp2
    go_quiet (fail)
    go_wp2
    go_quiet (fail)
    go_wp2
    go_ret
    exact ⟨aW (nR HR.out).symm,below_drewN (below_drewN (below_drewN (Below.refl _ _) _) _) _⟩
   ·have t1:((f m:Int) != (g m:Int))=true:=by simp;omega
    have t2:decide ((f m:Int)<(g m:Int))=false:=by simp;omega
    have HR:=Lib.hid (qZ Hlg.out Hlf.out (show m<n by omega) (fun j h1 h2=>(hall.out j (by omega) h2).symm) h)
    go_wp2
    go_quiet (fail)
    go_wp2
    go_quiet (fail)
    go_wp2
    go_ret
    exact ⟨aW (uM HR.out).symm,below_drewN (below_drewN (below_drewN (Below.refl _ _) _) _) _⟩
   ·rw [h] at hc1
    have H:=Lib.hid h
    clear h
    go_wp2
    go_quiet (fail)
    go_wp2
    go_roundw
    case rel=>exact ⟨(m:Int) - 1,rfl,by omega,by omega,fun j h1 h2=>by
     by_cases e:j=m
     ·subst e;exact H.out
     ·exact hall.out j (by omega) h2,_,rfl⟩
    case measure=>simp [intOf]
theorem Es (a b:Option Addr) (la lb ca cb x y:Nat) (w:World) (h1:Limbs w a la x) (h2:Limbs w b lb y) (l1:la≤4294967296) (l2:lb≤4294967296) :
  Calls Tryz.prog 193 #[.slice a la ca,.slice b lb cb] w fun e w'=>e = .returned (.int .i64 (kS x y))∧Below w.heap.size w w':=by
 obtain ⟨f,rfl,hf,rf⟩:=h1
 obtain ⟨g,rfl,hg,rg⟩:=h2
 by_cases h:la=lb
 ·subst h
  by_cases h0:la=0
  ·subst h0
   exact (V5 a b ca cb w).mono fun e w' ⟨he,hw⟩=>⟨he,hw ▸ Below.refl _ _⟩
  ·rcases rf with rf|⟨b1,o1,rfl,r1⟩
   ·exact absurd rf h0
   rcases rg with rg|⟨b2,o2,rfl,r2⟩
   ·exact absurd rg h0
   exact V6 b1 o1 b2 o2 la ca cb f g w l1 (by omega) r1 r2 hf.1 hg.1
 ·rcases (show la<lb∨lb<la by omega) with c|c
  ·refine (acY a b la lb ca cb w c l2).mono fun e w' ⟨he,hw⟩=>⟨he.trans (aW ?_),hw ▸ Below.refl _ _⟩
   rw [nR (hf.Ee hg c)]
  ·refine (acZ a b la lb ca cb w c l1).mono fun e w' ⟨he,hw⟩=>⟨he.trans (aW ?_),hw ▸ Below.refl _ _⟩
   rw [uM (hg.Ee hf c)]
set_option maxRecDepth 100000 in
theorem short_walk (b1 o1 n c1 d:Nat) (f:Nat→Nat) (w:World) (hn:n≤1073741824) (hf:Reads w b1 o1 .u32 n f) (lf : ∀ j,j<n→f j<LB) (hd0:0<d) (hd:d<LB) (hn0:0<n) :
  Calls Tryz.prog 194 #[.slice (some ⟨b1,o1,none⟩) n c1,.int .u32 d] w (Yo w (lv f n) d):=by
 have D0:(0:Int)<(d:Int):=by omega
 have D1:(d:Int)≤4294967295:=by unfold LB at hd;omega
 go_enter Tryz.func194,Tryz.ntmps194
 go_wp2_with (refine eX _ _ 135 138 .u32 4 n _ rfl rfl Tryz.underlying135 nP rfl rfl (by omega) (by omega) (by omega) ?_;intro w3 hr3 hb3 hz3)
 go_loopw [7,8] (fun r i wr=>∃ (I:Int) (R:Nat),i = .int .i64 I∧-1≤I∧I<n∧r = .int .u64 (R:Int)∧(∃ O,Row wr w.heap.size 138 .u32 n O∧En f O n (I+1).toNat d R)∧Below w.heap.size w wr) (fun _ i _=>(intOf i+1).toNat)
 case atStart=>exact ⟨_,0,rfl,by omega,by omega,rfl,⟨_,hr3,by rw [show ((n:Int) - 1+1).toNat=n by omega];exact Nq _ _ _ _ hd0⟩,hb3⟩
 case round =>
  obtain ⟨I,R,rfl,hI1,hI2,rfl,⟨O,hrow,hdiv⟩,hbel⟩:=hrel
  clear hr3 hb3 hz3
  have hR:=hdiv.2.1
  by_cases h0:I = -1
  ·subst h0
   obtain ⟨e1,e2,e3⟩:=Yn hdiv
   have E1:=Lib.hid e1
   have E2:=Lib.hid e2
   have E3:=Lib.hid e3
   have lU:=Lib.hid hrow
   clear e1 e2 e3 hrow hdiv
   go_wp2_with fail
   refine (Ny w w.heap.size n 138 _ _ (by omega) lU.out E3.out hbel).mono ?_
   rintro e w' ⟨a,len,cap,rfl,h1,h2,h3,h4⟩
   rw [E1.out] at h3
   go_wp2
   go_ret2
   exact ⟨a,len,cap,by rw [← E2.out];rfl,h1,h2,h3,h4⟩
  ·obtain ⟨m,rfl⟩:=Int.eq_ofNat_of_zero_le (show 0≤I by omega)
   rw [show ((m:Int)+1).toNat=m+1 by omega] at hdiv
   have hm:m<n:=by omega
   have hcell:=(hf.below hbel (hf.lt hn0)) m hm
   have hold:=hrow.cell (j:=m) hm
   have hfr:=hrow.frozen m
   have hor:=O6 R (f m) (by omega) (lf m hm)
   have hst:=Si hdiv hm (lf m hm)
   have HST:=Lib.hid hst
   have lU:=Lib.hid hrow
   clear hst hrow hdiv
   have R0:(0:Int)≤(R:Int):=by omega
   have R1:(R:Int)≤4294967294:=by omega
   have FM:=lf m hm
   have F1:(f m:Int)≤4294967295:=by unfold LB at FM;omega
   go_wp2
   go_roundw
   case rel =>
    refine ⟨(m:Int) - 1,(R*LB+f m)%d,rfl,by omega,by omega,?_,⟨upd O m ((R*LB+f m)/d),?_,?_⟩,hbel.setCell (Nat.le_refl _) _⟩
    ·simp only [Int.natCast_emod,Int.natCast_add,Int.natCast_mul]
    ·rw [SA R (f m) d hR FM]
     exact lU.out.set m _
    ·rw [show ((m:Int) - 1+1).toNat=m by omega];exact HST.out
   case measure=>simp [intOf]
theorem CX (f:Nat→Nat) (i t:Nat) (ht:t<4):lby f (4*i+t)=f i/2 ^ (8*t)%256:=by
 unfold lby
 rw [show (4*i+t)/4=i by omega,show (4*i+t)%4=t by omega]
set_option maxRecDepth 100000 in
theorem Jd (b off len cap:Nat) (f:Nat→Nat) (w:World) (hl:len≤268435456) (hcap:len≤cap) (hc:Reads w b off .u32 len f) (hf : ∀ j,j<len→f j<LB) (hb:0<len→b<w.heap.size) :
  Calls Tryz.prog 150 #[.slice (some ⟨b,off,none⟩) len cap] w fun e w'=>e = .returned (.string (bn (lv f len)))∧Below w.heap.size w w':=by
 have hn:=lK f len
 have HV:=Lib.hid (GX f len)
 have HS:=Lib.hid (fun w' (h:w' = w)=>Jb b off len cap f (yj f len) w' (by omega) hcap (by rw [h];exact hc) (lK f len) (vW f len) (yC f len))
 generalize yj f len=n at *
 have HC:=Lib.hid hc
 have HF:=Lib.hid hf
 clear hc hf
 obtain ⟨i0,hi,hz0,hz1,hz2⟩:=info_parts IX
 go_enter Tryz.func150,Tryz.ntmps150
 go_wp2_with fail
 refine (HS.out w rfl).mono ?_;rintro e w' ⟨rfl,rfl⟩
 go_wp2_with (refine wpList_make_own _ rfl _ _ 179 rfl w.heap.size 5 i0 (.int .u8 0) 1 Tryz.underlying179 hi hz0 hz1 .i64 .i64 _ (4*n) rfl rfl (by omega) (by rw [hz2];omega) (by unfold maxLen;omega) (Nat.le_refl _) ?_;intro w1 ho1 hg1)
 have hb1:Below w.heap.size w w1:=(Below.refl _ _).grown hg1 (Nat.le_refl _) (fun k h=>by cases h)
 have HO1:Hid (vF w1 w.heap.size 5 .u8 (.slice (some ⟨w.heap.size,0,none⟩) 0 (4*n)) 0 (fun j=>lby f (4*n - 1 - j))):=ho1
 clear ho1 hg1
 go_loopw [3,4] (fun v i wr=>∃ I:Int,i = .int .i64 I∧-1≤I∧I<n∧vF wr w.heap.size 5 .u8 v (4*(n - (I+1).toNat)) (fun j=>lby f (4*n - 1 - j))∧Below w.heap.size w wr) (fun _ i _=>(intOf i+1).toNat)
 case atStart =>
  refine ⟨_,rfl,by omega,by omega,?_,hb1⟩
  rw [show 4*(n - ((n:Int) - 1+1).toNat)=0 by omega]
  exact HO1.out
 case round =>
  obtain ⟨I,rfl,hI1,hI2,hown,hbel⟩:=hrel
  clear hb1 HO1
  have HO:=Lib.hid hown
  clear hown
  by_cases h0:I = -1
  ·as_aux_lemma =>
   subst h0
   have hcv:=fun wx (h:vF wx w.heap.size 5 .u8 u3 (4*(n - ((-1:Int)+1).toNat)) (fun j=>lby f (4*n - 1 - j)))=>h.str (P:=Tryz.prog) (src:=179) (dst:=9) Tryz.underlying179 Tryz.underlying5 Tryz.underlying9
   have hcv2:=hcv _ HO.out
   have hnv:nv (⟨((List.range (4*(n - ((-1:Int)+1).toNat))).map fun j=>UInt8.ofNat (lby f (4*n - 1 - j))).toArray⟩:ByteArray)=lv f len:=by
    have h:=Yj (fun j=>lby f (4*n - 1 - j)) (4*n) (fun j _=>Nat.mod_lt _ (by omega))
    unfold RN at h
    rw [show 4*(n - ((-1:Int)+1).toNat)=4*n by omega,h,← HV.out,← acy (fun j hj=>HF.out j (by omega))]
    apply BQ
    intro j hj
    congr 1;omega
   have hsz:(⟨((List.range (4*(n - ((-1:Int)+1).toNat))).map fun j=>UInt8.ofNat (lby f (4*n - 1 - j))).toArray⟩:ByteArray).size≤9223372036854775000:=by
    have h:(⟨((List.range (4*(n - ((-1:Int)+1).toNat))).map fun j=>UInt8.ofNat (lby f (4*n - 1 - j))).toArray⟩:ByteArray).size=4*(n - ((-1:Int)+1).toNat):=vX _ _
    omega
   generalize (⟨((List.range (4*(n - ((-1:Int)+1).toNat))).map fun j=>UInt8.ofNat (lby f (4*n - 1 - j))).toArray⟩:ByteArray)=t at *
   have HNV:=Lib.hid hnv
   clear hnv hcv HO
   go_wp2_with fail
   refine (sU _ _ hsz).mono ?_;rintro e w' ⟨rfl,rfl⟩
   go_wp2
   go_ret
   exact ⟨rE (by rw [HNV.out]),hbel⟩
  ·as_aux_lemma =>
   obtain ⟨m,rfl⟩:=Int.eq_ofNat_of_zero_le (show 0≤I by omega)
   have hm:m<n:=by omega
   have hcell:=(HC.out.below hbel (hb (by omega))) m (by omega)
   have fm:=HF.out m (by omega)
   have f1:(f m:Int)≤4294967295:=by unfold LB at fm;omega
   have hsz:=hbel.size
   have hk:4*(n - ((m:Int)+1).toNat)=4*(n - 1 - m):=by omega
   have HO2:Hid (vF wr w.heap.size 5 .u8 u3 (4*(n - 1 - m)) (fun j=>lby f (4*n - 1 - j))):=by
    have:=HO.out;rw [hk] at this;exact this
   clear HO hk
   go_wp2_with (at_builtin;refine II _ _ 179 5 .u8 1 w.heap.size _ _ _ (f m/16777216%256) (f m/65536%256) (f m/256%256) (f m%256) _ _ _ _ rfl rfl Tryz.underlying179 IX rfl rfl (by omega) (by omega) (by omega) (by omega) HO2.out (by omega) (by omega) hsz ?_;intro v' w2 ho2 hb2)
   go_roundw
   case rel =>
    refine ⟨(m:Int) - 1,rfl,by omega,by omega,?_,hbel.trans hb2⟩
    have e:=ho2.congr (g:=fun j=>lby f (4*n - 1 - j)) (fun j hj=>by
     by_cases h4:j<4*(n - 1 - m)
     ·rw [if_pos h4]
     ·rw [if_neg h4]
      rcases (show j=4*(n - 1 - m)∨j=4*(n - 1 - m)+1∨j=4*(n - 1 - m)+2∨j=4*(n - 1 - m)+3 by omega) with h|h|h|h
      ·rw [h,show 4*n - 1 - 4*(n - 1 - m)=4*m+3 by omega,CX f m 3 (by omega)];simp
      ·rw [h,show 4*n - 1 - (4*(n - 1 - m)+1)=4*m+2 by omega,CX f m 2 (by omega),Nat.add_sub_cancel_left];simp
      ·rw [h,show 4*n - 1 - (4*(n - 1 - m)+2)=4*m+1 by omega,CX f m 1 (by omega),Nat.add_sub_cancel_left];simp
      ·rw [h,show 4*n - 1 - (4*(n - 1 - m)+3)=4*m+0 by omega,CX f m 0 (by omega),Nat.add_sub_cancel_left];simp)
    rw [show 4*(n - ((m:Int) - 1+1).toNat)=4*(n - 1 - m)+4 by omega]
    exact e
   case measure=>simp [intOf]
theorem V7 (a:Option Addr) (cap:Nat) (w:World) :
  Calls Tryz.prog 173 #[.slice a 0 cap] w fun e w'=>e = .returned (.slice a 0 cap)∧w=w':=by
 go_enter Tryz.func173,Tryz.ntmps173
 go_wp2
 go_loop [3] (fun i=>i = .int .i64 0) (fun _=>0)
 case atStart=>exact rfl
 case round =>
  subst hrel
  cases a with
  | none =>
   go_wp2
   go_ret
   exact ⟨rfl,rfl⟩
  | some p =>
   go_wp2
   go_ret
   exact ⟨rfl,rfl⟩
theorem V9 (a:Option Addr) (cap:Nat) (w:World) :
  Calls Tryz.prog 150 #[.slice a 0 cap] w fun e w'=>e = .returned (.string (bn 0))∧Below w.heap.size w w':=by
 obtain ⟨i0,hi,hz0,hz1,hz2⟩:=info_parts IX
 go_enter Tryz.func150,Tryz.ntmps150
 go_wp2_with fail
 refine (V7 a cap w).mono ?_;rintro e w' ⟨rfl,rfl⟩
 go_wp2_with (refine wpList_make_own _ rfl _ _ 179 rfl w.heap.size 5 i0 (.int .u8 0) 1 Tryz.underlying179 hi hz0 hz1 .i64 .i64 _ 0 rfl rfl rfl (by rw [hz2];omega) (by unfold maxLen;omega) jp ?_;intro w1 ho1 hg1)
 have hb1:Below w.heap.size w w1:=(Below.refl _ _).grown hg1 jp (fun k h=>by cases h)
 have HO1:Hid (vF w1 w.heap.size 5 .u8 (.slice (some ⟨w.heap.size,0,none⟩) 0 0) 0 (fun _=>0)):=ho1
 have hcv:=HO1.out.str (P:=Tryz.prog) (src:=179) (dst:=9) Tryz.underlying179 Tryz.underlying5 Tryz.underlying9
 clear ho1 hg1
 go_loopw [3,4] (fun v i wr=>v = .slice (some ⟨w.heap.size,0,none⟩) 0 0∧i = .int .i64 (-1)∧wr=w1) (fun _ _ _=>0)
 case atStart=>exact ⟨rfl,rfl,rfl⟩
 case round =>
  obtain ⟨rfl,rfl,rfl⟩:=hrel
  go_wp2_with fail
  refine (sU _ _ ?_).mono ?_
  ·show (0:Nat)≤_;omega
  rintro e w' ⟨rfl,rfl⟩
  go_wp2
  go_ret
  exact ⟨rfl,hb1⟩
theorem lM (a:Option Addr) (len cap x:Nat) (w:World) (h:Limbs w a len x) (hl:len≤268435456) (hcap:len≤cap) :
  Calls Tryz.prog 150 #[.slice a len cap] w fun e w'=>e = .returned (.string (bn x))∧Below w.heap.size w w':=by
 obtain ⟨f,rfl,h2,h3⟩:=h
 rcases h3 with rfl|⟨b,off,rfl,hr⟩
 ·exact V9 a cap w
 ·exact Jd b off len cap f w hl hcap hr h2.1 (fun h=>hr.lt h)
theorem vH (u:Nat) (w:World) (hu:u<18446744073709551616) :
  Calls Tryz.prog 119 #[.int .u64 (u:Int)] w fun e w'=>e = .returned (.string (bn u))∧Below w.heap.size w w':=by
 have e1:((u:Int)%4294967296)=((u%4294967296:Nat):Int):=jb
 have e2:((u:Int)/4294967296)=((u/4294967296:Nat):Int):=jb
 obtain ⟨x,hx⟩ : ∃ x,x=u%4294967296:=⟨_,rfl⟩
 obtain ⟨y,hy⟩ : ∃ y,y=u/4294967296:=⟨_,rfl⟩
 have hyl:y<4294967296:=jb
 have hu2:(u:Int)≤18446744073709551615:=jb
 have hlv:lv (fun j=>if j=0 then x else y) 2=u:=by simp [lv];unfold LB;omega
 have hlim : ∀ j,j<2→(if j=0 then x else y)<LB:=by intro j _;unfold LB;split <;> omega
 have arC:(y:Int)%4294967296=y:=jb
 rw [← hx] at e1
 rw [← hy] at e2
 have HLV:=jx hlv
 have HLM:=jx hlim
 clear hx hy hlv hlim
 go_enter Tryz.func119,Tryz.ntmps119
 go_wp2_with fail
 have hrow:=Yq w 138 x y
 refine (Jd w.heap.size 0 2 2 _ _ jb jb hrow.reads HLM.out (fun _=>hrow.lt)).mono ?_
 rintro e w4 ⟨rfl,hb4⟩
 rw [HLV.out]
 clear hrow
 go_wp2
 go_ret
 exact ⟨rfl,((Below.refl _ _).alloc jp _).trans (hb4.mono kc)⟩

def Je (w:World) (b o:Nat) (n:Bool) (s d:ByteArray):Prop :=
 w.cell? ⟨b,o,none⟩=some (.bool n)∧w.cell? ⟨b,o+1,none⟩=some (.string s)∧w.cell? ⟨b,o+2,none⟩=some (.string d)
theorem Pj {a b:ByteArray} (h:a≠b):(a.toList == b.toList)=false:=by
 rw [beq_eq_false_iff_ne]
 intro e
 rw [ByteArray.toList_eq,ByteArray.toList_eq] at e
 apply h
 obtain ⟨⟨l⟩⟩:=a
 obtain ⟨⟨m⟩⟩:=b
 simp at e
 rw [e]
theorem Jf {a:ByteArray} (h:a≠⟨#[1]⟩):(a.toList == [1])=false:=by
 have:=Pj h
 rwa [show (⟨#[1]⟩:ByteArray).toList=[1] by rw [ByteArray.toList_eq]] at this
def dnS (d:ByteArray):ByteArray:=if d.size=0 then ⟨#[1]⟩ else d
theorem ac0:dnS ⟨#[]⟩=⟨#[1]⟩:=rfl
theorem Yr {d:ByteArray} (h : ¬ d.size=0):dnS d=d:=by unfold dnS;rw [if_neg h]
theorem ak5 (q:Rat):dnS (rd q)=bn q.den:=by
 unfold rd
 by_cases h:q.den=1
 ·rw [if_pos h,h];rfl
 ·rw [if_neg h];apply Yr
  intro h2
  have:=gW h2
  rw [FH] at this
  have:=q.den_pos;omega
theorem ag4 (n:Bool) (s d:ByteArray) (w:World) :
  Calls Tryz.prog 38 #[.agg #[.bool n,.string s,.string d]] w fun e w'=>e = .returned (.string (dnS d))∧Below w.heap.size w w':=by
 by_cases h:d.size=0
 ·obtain rfl:=gW h
  rw [ac0]
  clear h
  go_enter Tryz.func38,Tryz.ntmps38
  go_wp2
  go_ret
  exact ⟨rfl,(Below.refl _ _).alloc jp _⟩
 ·obtain ⟨h1,h2⟩:=iQ h
  rw [Yr h]
  clear h
  go_enter Tryz.func38,Tryz.ntmps38
  go_wp2
  go_ret
  exact ⟨rfl,(Below.refl _ _).alloc jp _⟩
def ac1 (n:Bool) (s d:ByteArray):Bool:=decide (Vl n s d)
theorem wB {n:Bool} {s d:ByteArray} (h:Vl n s d):ac1 n s d=true:=decide_eq_true h
theorem mQ {n:Bool} {s d:ByteArray} (h : ¬ Vl n s d):ac1 n s d=false:=decide_eq_false h
theorem ag5 (n:Bool) (s d:ByteArray) (w:World) (hs:s.size≤1073741824) (h : ¬ bn (nv s)=s) :
  Calls Tryz.prog 71 #[.agg #[.bool n,.string s,.string d]] w fun e w'=>e = .returned (.bool false)∧Below w.heap.size w w':=by
 have hN : ∀ w,Calls Tryz.prog 72 #[.string s] w fun e w'=>e = .returned (.string (bn (nv s)))∧w=w':=fun w=>aV s w jb
 generalize bn (nv s)=t at *
 have h1:=Pj h
 have HN:=jx hN
 clear hN h
 go_enter Tryz.func71,Tryz.ntmps71
 go_wp2
 refine dU (fun W=>Je W w.heap.size 0 n s d∧Below w.heap.size w W) ⟨⟨by simp [go_sem],by simp [go_sem],by simp [go_sem]⟩,(Below.refl _ _).alloc jp _⟩ ?_
 rintro W ⟨⟨c0,c1,c2⟩,hb⟩
 have k0:=cell_regrown c0
 have k1:=cell_regrown c1
 have k2:=cell_regrown c2
 refine bU (by kernel_rfl) (by kernel_rfl) ?_
 repeat (first|go_big_quiet_skip|quiet_step (first|with_reducible exact Calls.iH (HN.out _)))
 refine wpQuiet_nil ?_
 intro W1 hb1
 go_wp2
 go_ret
 exact ⟨rfl,hb.trans (hb1.mono hb.size)⟩
theorem ag6 (n:Bool) (s d:ByteArray) (w:World) (hs:s.size≤1073741824) (hd:d.size≤1073741824) (h0:bn (nv s)=s) (h : ¬ bn (nv d)=d) :
  Calls Tryz.prog 71 #[.agg #[.bool n,.string s,.string d]] w fun e w'=>e = .returned (.bool false)∧Below w.heap.size w w':=by
 have hM : ∀ w,Calls Tryz.prog 72 #[.string s] w fun e w'=>e = .returned (.string s)∧w=w':=fun w=>by
  have:=aV s w jb;rw [h0] at this;exact this
 have hN : ∀ w,Calls Tryz.prog 72 #[.string d] w fun e w'=>e = .returned (.string (bn (nv d)))∧w=w':=fun w=>aV d w jb
 generalize bn (nv d)=t at *
 have h1:=Pj h
 have HN:=jx hN
 have HM:=jx hM
 clear hN hM h h0
 go_enter Tryz.func71,Tryz.ntmps71
 go_wp2
 refine dU (fun W=>Je W w.heap.size 0 n s d∧Below w.heap.size w W) ⟨⟨by simp [go_sem],by simp [go_sem],by simp [go_sem]⟩,(Below.refl _ _).alloc jp _⟩ ?_
 rintro W ⟨⟨c0,c1,c2⟩,hb⟩
 have k0:=cell_regrown c0
 have k1:=cell_regrown c1
 have k2:=cell_regrown c2
 refine bU (by kernel_rfl) (by kernel_rfl) ?_
 repeat (first|go_big_quiet_skip|quiet_step (first|with_reducible exact Calls.iH (HM.out _)|with_reducible exact Calls.iH (HN.out _)))
 refine wpQuiet_nil ?_
 intro W1 hb1
 go_wp2
 go_ret
 exact ⟨rfl,hb.trans (hb1.mono hb.size)⟩
theorem ag7 (n:Bool) (d:ByteArray) (w:World) (hd:d.size≤1073741824) (h:bn (nv d)=d) :
  Calls Tryz.prog 71 #[.agg #[.bool n,.string ⟨#[]⟩,.string d]] w fun e w'=>e = .returned (.bool (!n && decide (d.size=0)))∧Below w.heap.size w w':=by
 have hM : ∀ w,Calls Tryz.prog 72 #[.string ⟨#[]⟩] w fun e w'=>e = .returned (.string ⟨#[]⟩)∧w=w':=fun w=>aV ⟨#[]⟩ w jj
 have hN : ∀ w,Calls Tryz.prog 72 #[.string d] w fun e w'=>e = .returned (.string d)∧w=w':=fun w=>by
  have:=aV d w jb;rw [h] at this;exact this
 have HN:=jx hN
 have HM:=jx hM
 clear hN hM h
 by_cases h0:d.size=0
 ·obtain rfl:=gW h0
  have e1:(!n && decide ((⟨#[]⟩:ByteArray).size=0)) = !n:=by cases n <;> rfl
  rw [e1]
  clear h0 hd e1
  cases n
  all_goals
   go_enter Tryz.func71,Tryz.ntmps71
   go_wp2
   refine dU (fun W=>Je W w.heap.size 0 _ ⟨#[]⟩ ⟨#[]⟩∧Below w.heap.size w W) ⟨⟨by simp [go_sem];rfl,by simp [go_sem],by simp [go_sem]⟩,(Below.refl _ _).alloc jp _⟩ ?_
   rintro W ⟨⟨c0,c1,c2⟩,hb⟩
   have k0:=cell_regrown c0
   have k1:=cell_regrown c1
   have k2:=cell_regrown c2
   refine bU (by kernel_rfl) (by kernel_rfl) ?_
   repeat (first|go_big_quiet_skip|quiet_step (first|with_reducible exact Calls.iH (HM.out _)))
   refine wpQuiet_nil ?_
   intro W1 hb1
   have hlt:=block_lt_of_cell c0
   have g0:=(hb1.cell hlt).trans c0
   have g1:=(hb1.cell (p:=⟨w.heap.size,0+1,none⟩) hlt).trans c1
   have g2:=(hb1.cell (p:=⟨w.heap.size,0+2,none⟩) hlt).trans c2
   go_wp2
   go_ret
   exact ⟨rfl,hb.trans (hb1.mono hb.size)⟩
 ·obtain ⟨h1,h2⟩:=iQ h0
  have e1:(!n && decide (d.size=0))=false:=by rw [decide_eq_false h0];cases n <;> rfl
  rw [e1]
  clear h0 hd e1
  cases n
  all_goals
   go_enter Tryz.func71,Tryz.ntmps71
   go_wp2
   refine dU (fun W=>Je W w.heap.size 0 _ ⟨#[]⟩ d∧Below w.heap.size w W) ⟨⟨by simp [go_sem];rfl,by simp [go_sem],by simp [go_sem]⟩,(Below.refl _ _).alloc jp _⟩ ?_
   rintro W ⟨⟨c0,c1,c2⟩,hb⟩
   have k0:=cell_regrown c0
   have k1:=cell_regrown c1
   have k2:=cell_regrown c2
   refine bU (by kernel_rfl) (by kernel_rfl) ?_
   repeat (first|go_big_quiet_skip|quiet_step (first|with_reducible exact Calls.iH (HM.out _)|with_reducible exact Calls.iH (HN.out _)))
   refine wpQuiet_nil ?_
   intro W1 hb1
   have hlt:=block_lt_of_cell c0
   have g0:=(hb1.cell hlt).trans c0
   have g1:=(hb1.cell (p:=⟨w.heap.size,0+1,none⟩) hlt).trans c1
   have g2:=(hb1.cell (p:=⟨w.heap.size,0+2,none⟩) hlt).trans c2
   go_wp2
   go_ret
   exact ⟨rfl,hb.trans (hb1.mono hb.size)⟩
theorem ag8 (n:Bool) (s:ByteArray) (w:World) (hs:s.size≤1073741824) (h:bn (nv s)=s) (h0 : ¬ s.size=0) :
  Calls Tryz.prog 71 #[.agg #[.bool n,.string s,.string ⟨#[]⟩]] w fun e w'=>e = .returned (.bool true)∧Below w.heap.size w w':=by
 have hM : ∀ w,Calls Tryz.prog 72 #[.string ⟨#[]⟩] w fun e w'=>e = .returned (.string ⟨#[]⟩)∧w=w':=fun w=>aV ⟨#[]⟩ w jj
 have hN : ∀ w,Calls Tryz.prog 72 #[.string s] w fun e w'=>e = .returned (.string s)∧w=w':=fun w=>by
  have:=aV s w jb;rw [h] at this;exact this
 have HN:=jx hN
 have HM:=jx hM
 obtain ⟨h1,h2⟩:=iQ h0
 clear hN hM h h0
 go_enter Tryz.func71,Tryz.ntmps71
 go_wp2
 refine dU (fun W=>Je W w.heap.size 0 n s ⟨#[]⟩∧Below w.heap.size w W) ⟨⟨by simp [go_sem],by simp [go_sem],by simp [go_sem]⟩,(Below.refl _ _).alloc jp _⟩ ?_
 rintro W ⟨⟨c0,c1,c2⟩,hb⟩
 have k0:=cell_regrown c0
 have k1:=cell_regrown c1
 have k2:=cell_regrown c2
 refine bU (by kernel_rfl) (by kernel_rfl) ?_
 repeat (first|go_big_quiet_skip|quiet_step (first|with_reducible exact Calls.iH (HM.out _)|with_reducible exact Calls.iH (HN.out _)))
 refine wpQuiet_nil ?_
 intro W1 hb1
 have hlt:=block_lt_of_cell c0
 have g0:=(hb1.cell hlt).trans c0
 have g1:=(hb1.cell (p:=⟨w.heap.size,0+1,none⟩) hlt).trans c1
 have g2:=(hb1.cell (p:=⟨w.heap.size,0+2,none⟩) hlt).trans c2
 go_wp2
 go_ret
 exact ⟨rfl,hb.trans (hb1.mono hb.size)⟩
set_option maxRecDepth 100000 in
theorem ag9 (n:Bool) (s:ByteArray) (w:World) (hs:s.size≤1073741824) (h:bn (nv s)=s) (h0 : ¬ s.size=0) :
  Calls Tryz.prog 71 #[.agg #[.bool n,.string s,.string ⟨#[1]⟩]] w fun e w'=>e = .returned (.bool false)∧Below w.heap.size w w':=by
 have hM : ∀ w,Calls Tryz.prog 72 #[.string ⟨#[1]⟩] w fun e w'=>e = .returned (.string ⟨#[1]⟩)∧w=w':=fun w=>by
  have:=aV ⟨#[1]⟩ w (by decide);rw [show nv ⟨#[1]⟩=1 by decide,AY] at this;exact this
 have hN : ∀ w,Calls Tryz.prog 72 #[.string s] w fun e w'=>e = .returned (.string s)∧w=w':=fun w=>by
  have:=aV s w (by omega);rw [h] at this;exact this
 have HN:=Lib.hid hN
 have HM:=Lib.hid hM
 obtain ⟨h1,h2⟩:=iQ h0
 clear hN hM h h0
 go_enter Tryz.func71,Tryz.ntmps71
 go_wp2
 refine dU (fun W=>Je W w.heap.size 0 n s ⟨#[1]⟩∧Below w.heap.size w W) ⟨⟨by simp [go_sem],by simp [go_sem],by simp [go_sem]⟩,(Below.refl _ _).alloc (Nat.le_refl _) _⟩ ?_
 rintro W ⟨⟨c0,c1,c2⟩,hb⟩
 have k0:=cell_regrown c0
 have k1:=cell_regrown c1
 have k2:=cell_regrown c2
 refine bU (by kernel_rfl) (by kernel_rfl) ?_
 repeat (first|go_big_quiet_skip|quiet_step (first|with_reducible exact Calls.iH (HM.out _)|with_reducible exact Calls.iH (HN.out _)))
 refine wpQuiet_nil ?_
 intro W1 hb1
 have hlt:=block_lt_of_cell c0
 have g0:=(hb1.cell hlt).trans c0
 have g1:=(hb1.cell (p:=⟨w.heap.size,0+1,none⟩) hlt).trans c1
 have g2:=(hb1.cell (p:=⟨w.heap.size,0+2,none⟩) hlt).trans c2
 go_wp2
 go_ret
 exact ⟨rfl,hb.trans (hb1.mono hb.size)⟩
theorem Jg (x:Nat):((bn x).toList == [1])=decide (x=1):=by
 by_cases h:x=1
 ·subst h;rw [AY,decide_eq_true rfl,ByteArray.toList_eq];rfl
 ·rw [decide_eq_false h];exact Jf (fun e=>h (Vx (e.trans AY.symm)))
theorem aha (n:Bool) (s d:ByteArray) (w:World) (hs:s.size≤1073741824) (hd:d.size≤1073741824) (h:bn (nv s)=s) (h0 : ¬ s.size=0) (hd1:bn (nv d)=d) (hd0 : ¬ d.size=0) (hd2:d≠⟨#[1]⟩) :
  Calls Tryz.prog 71 #[.agg #[.bool n,.string s,.string d]] w fun e w'=>e = .returned (.bool (decide (Nat.gcd (nv s) (nv d)=1)))∧Below w.heap.size w w':=by
 have hM : ∀ w,Calls Tryz.prog 72 #[.string d] w fun e w'=>e = .returned (.string d)∧w=w':=fun w=>by
  have:=aV d w jb;rw [hd1] at this;exact this
 have hN : ∀ w,Calls Tryz.prog 72 #[.string s] w fun e w'=>e = .returned (.string s)∧w=w':=fun w=>by
  have:=aV s w jb;rw [h] at this;exact this
 have HN:=jx hN
 have HM:=jx hM
 obtain ⟨h1,h2⟩:=iQ h0
 obtain ⟨h3,h4⟩:=iQ hd0
 have h5:=Jf hd2
 have HE:=jx (Jg (Nat.gcd (nv s) (nv d)))
 clear hN hM h h0 hd0 hd1 hd2
 go_enter Tryz.func71,Tryz.ntmps71
 go_wp2
 refine dU (fun W=>Je W w.heap.size 0 n s d∧Below w.heap.size w W) ⟨⟨by simp [go_sem],by simp [go_sem],by simp [go_sem]⟩,(Below.refl _ _).alloc jp _⟩ ?_
 rintro W ⟨⟨c0,c1,c2⟩,hb⟩
 have k0:=cell_regrown c0
 have k1:=cell_regrown c1
 have k2:=cell_regrown c2
 refine bU (by kernel_rfl) (by kernel_rfl) ?_
 repeat (first|go_big_quiet_skip|quiet_step (first|with_reducible exact Calls.iH (HM.out _)|with_reducible exact Calls.iH (HN.out _)))
 refine wpQuiet_nil ?_
 intro W1 hb1
 have hlt:=block_lt_of_cell c0
 have g0:=(hb1.cell hlt).trans c0
 have g1:=(hb1.cell (p:=⟨w.heap.size,0+1,none⟩) hlt).trans c1
 have g2:=(hb1.cell (p:=⟨w.heap.size,0+2,none⟩) hlt).trans c2
 go_wp2_with fail
 refine (Ho s d _ hs hd).mono ?_;rintro e w3 ⟨rfl,hb3⟩
 go_wp2
 go_ret
 have hz:=hb.size
 have hz1:=hb1.size
 exact ⟨BX HE.out,hb.trans ((hb1.mono hz).trans (hb3.mono jb))⟩
theorem Wi {s:ByteArray} (h:bn (nv s)=s) (h0 : ¬ s.size=0):nv s≠0:=by
 intro e
 rw [e] at h
 apply h0
 rw [← h];rfl
theorem Nz (n:Bool) (s d:ByteArray) (w:World) (hs:s.size≤1073741824) (hd:d.size≤1073741824) :
  Calls Tryz.prog 71 #[.agg #[.bool n,.string s,.string d]] w fun e w'=>e = .returned (.bool (ac1 n s d))∧Below w.heap.size w w':=by
 by_cases h1:bn (nv s)=s
 ·by_cases h2:bn (nv d)=d
  ·by_cases h3:s.size=0
   ·obtain rfl:=gW h3
    have e:ac1 n ⟨#[]⟩ d=(!n && decide (d.size=0)):=by
     by_cases h4:d.size=0
     ·obtain rfl:=gW h4
      cases n
      ·exact wB ⟨h1,h2,fun _=>⟨rfl,rfl⟩,.inl rfl⟩
      ·exact mQ fun h=>by have:=(h.2.2.1 rfl).1;exact absurd this jj
     ·rw [decide_eq_false h4,Bool.and_false]
      exact mQ fun h=>Wi h2 h4 (h.2.2.1 rfl).2
    rw [e];exact ag7 n d w hd h2
   ·have n1:=Wi h1 h3
    by_cases h4:d.size=0
    ·obtain rfl:=gW h4
     rw [wB ⟨h1,h2,fun h=>absurd h n1,.inl rfl⟩]
     exact ag8 n s w hs h1 h3
    ·have n2:=Wi h2 h4
     by_cases h5:d=⟨#[1]⟩
     ·subst h5
      rw [mQ fun h=>by
       have e1:nv ⟨#[1]⟩=1:=rfl
       rcases h.2.2.2 with h6|⟨h6,_⟩
       ·rw [e1] at h6;exact absurd h6 jj
       ·exact h6 e1]
      exact ag9 n s w hs h1 h3
     ·have n3:nv d≠1:=fun e=>h5 (by rw [← h2,e,AY])
      have e:ac1 n s d=decide (Nat.gcd (nv s) (nv d)=1):=by
       by_cases h6:Nat.gcd (nv s) (nv d)=1
       ·rw [decide_eq_true h6];exact wB ⟨h1,h2,fun h=>absurd h n1,.inr ⟨n3,h6⟩⟩
       ·rw [decide_eq_false h6];exact mQ fun h=>by
         rcases h.2.2.2 with h7|⟨_,h7⟩
         ·exact n2 h7
         ·exact h6 h7
      rw [e];exact aha n s d w hs hd h1 h3 h2 h4 h5
  ·rw [mQ fun h=>h2 h.2.1];exact ag6 n s d w hs hd h1 h2
 ·rw [mQ fun h=>h1 h.1];exact ag5 n s d w hs h1
def rv (q:Rat):Value:=.agg #[.bool (rn q),.string (rs q),.string (rd q)]
theorem ac2 {n:Bool} {s d:ByteArray} (h:Vl n s d):rv (rq n s d) = .agg #[.bool n,.string s,.string d]:=by
 obtain ⟨e1,e2,e3⟩:=IU h
 unfold rv;rw [e1,e2,e3]
theorem ak6 {n:Bool} {s d:ByteArray} (h : ¬ Vl n s d):rv (rq n s d) = .agg #[.bool false,.string ⟨#[]⟩,.string ⟨#[]⟩]:=by
 rw [acF h];rfl
end Go.Proofs.Ins
