/- The walk of bW.shifted. -/
import Derived.Test.YtjonjhcaniinaaaGreatDoorZ5
set_option linter.unusedSimpArgs false
set_option linter.unusedVariables false
set_option maxHeartbeats 8000000
namespace Go.Proofs.Ins
open Go.RowKit
theorem aev (l:List UInt8) (k:Nat) (h : ∀ j,j<k→l.getD j 0=0):bv (l.drop k)=bv l:=by
 induction k generalizing l with
 | zero=>rfl
 | succ k ih =>
  cases l with
  | nil=>rfl
  | cons x l =>
   have hx:x=0:=by simpa using h 0 (by omega)
   rw [List.drop_succ_cons,ih l (fun j hj=>by simpa using h (j+1) (by omega)),pz,hx]
   simp
theorem Am (s:ByteArray) (k:Nat) (hk:k≤s.size) (h : ∀ j,j<k→s.data.toList.getD j 0=0) (h2:k=s.size∨s.data.toList.getD k 0≠0):s.extract k s.size=bn (nv s):=by
 have e:(s.extract k s.size).data.toList=s.data.toList.drop k:=by
  rw [Lib.extract_data,List.take_of_length_le]
  rw [List.length_drop,rF]
  exact Nat.le_refl _
 have e2:nv (s.extract k s.size)=nv s:=by unfold nv;rw [e];exact aev _ _ h
 rw [← e2]
 symm
 apply BU
 rw [e]
 rcases h2 with h2|h2
 ·rw [List.drop_eq_nil_of_le (by rw [rF];omega)];simp
 ·rw [List.head?_drop]
  rw [List.getD_eq_getElem?_getD] at h2
  intro h3
  rw [h3] at h2
  exact h2 rfl
theorem getD_eq (s:ByteArray) (k:Nat) (h:k<s.size):s.data.toList.getD k 0=s[k]'h:=by
 rw [List.getD_eq_getElem?_getD,List.getElem?_eq_getElem (by rw [rF];exact h)]
 rfl
set_option maxRecDepth 100000 in
theorem qH (s:ByteArray) (w:World) (hs:s.size≤9223372036854775000) :
  Calls Tryz.prog 174 #[.string s] w fun e w'=>e = .returned (.string (bn (nv s)))∧w=w':=by
 go_enter Tryz.func174,Tryz.ntmps174
 go_wp2
 go_loop [3] (fun v=>∃ k:Nat,v = .int .i64 k∧k≤s.size∧Hid (∀ j,j<k→s.data.toList.getD j 0=0)) (fun v=>s.size - (intOf v).toNat)
 case atStart=>exact ⟨0,rfl,by omega,fun j hj=>by omega⟩
 case round =>
  obtain ⟨k,rfl,hk,hz⟩:=hrel
  by_cases hlt:k<s.size
  ·have hgd:=Lib.hid (getD_eq s k hlt)
   by_cases h0:s[k].toNat=0
   ·have h0' : (s[k].toNat:Int)=0:=by omega
    have HZ:=Lib.hid h0
    clear h0
    go_wp2
    go_round
    case rel=>exact ⟨k+1,by go_num,by omega,fun j hj=>by
     by_cases e:j=k
     ·subst e;rw [hgd.out];exact UInt8.toNat_inj.mp (by rw [HZ.out];rfl)
     ·exact hz.out j (by omega)⟩
    case measure=>simp [intOf];omega
   ·have h0' : ((s[k].toNat:Int) == 0)=false:=by simp;omega
    have hx:=Lib.hid (Am s k hk hz.out (.inr (by rw [hgd.out];intro e;rw [e] at h0;exact h0 rfl)))
    clear h0
    go_wp2
    go_ret
    exact ⟨pF hx.out,rfl⟩
  ·obtain rfl:k=s.size:=by omega
   have hx:=Lib.hid (Am s s.size hk hz.out (.inl rfl))
   go_wp2
   go_ret
   exact ⟨pF (by rw [← hx.out];simp),rfl⟩
theorem vC (b off len cap:Nat) (xs:Nat→Nat) (n:Nat) (w:World) (hl:len≤4294967296) (hcap:len≤cap)
  (hc : ∀ j,j<len→w.cell? ⟨b,off+j,none⟩=some (.int .u32 (xs j)))
  (hn:n≤len) (hz : ∀ j,n≤j→j<len→xs j=0) (hnz:n=0∨xs (n-1)≠0) :
  Calls Tryz.prog 173 #[.slice (some ⟨b,off,none⟩) len cap] w fun e w'=>e = .returned (.slice (some ⟨b,off,none⟩) n cap)∧w=w':=by
 go_enter Tryz.func173,Tryz.ntmps173
 go_wp2
 go_loop [3] (fun i=>∃ k:Nat,i = .int .i64 k∧n≤k∧k≤len) (fun i=>(intOf i).toNat)
 case atStart=>exact ⟨len,rfl,hn,by omega⟩
 case round =>
  obtain ⟨k,rfl,h1,h2⟩:=hrel
  by_cases hk:k=n
  ·subst hk
   by_cases h0:k=0
   ·subst h0
    go_wp2
    go_ret
    exact ⟨rfl,rfl⟩
   ·have h3:xs (k-1)≠0:=by omega
    have hcell:=hc (k-1) (by omega)
    clear hc hz
    have hb:((xs (k-1):Int) == 0)=false:=by simp;omega
    go_wp2
    go_ret
    exact ⟨rfl,rfl⟩
  ·have hcell:=hc (k-1) (by omega)
   have hz1:=hz (k-1) (by omega) (by omega)
   clear hc hz
   rw [hz1] at hcell
   clear hz1
   go_wp2
   go_round
   case rel=>exact ⟨k-1,by go_num,by omega,by omega⟩
   case measure=>simp [intOf];omega
theorem Ko (w0:World) (b len:Nat) (T:TypeId) (f:Nat→Nat) (w:World) (hl:len≤4294967296) (hr:Row w b T .u32 len f) (hf : ∀ j,j<len→f j<LB) (hbel:Below w0.heap.size w0 w) :
  Calls Tryz.prog 173 #[.slice (some ⟨b,0,none⟩) len len] w (eF w0 (lv f len)) :=
 (vC b 0 len len f (tY f len) w hl (Nat.le_refl _) hr.reads (gI f len) (mX f len) (qF f len)).mono (by
  rintro e w' ⟨rfl,rfl⟩
  refine ⟨_,_,_,rfl,gI f len,(by omega),⟨f,yj f len,wK hf,?_⟩,hbel⟩
  exact .inr ⟨b,0,rfl,fun j hj=>hr.reads j (Nat.lt_of_lt_of_le hj (gI f len))⟩)
theorem Jq {x:Nat} (h:0<(bn x).size):256 ^ ((bn x).size - 1)≤x:=by
 have h1:Em x≠[]:=by
  intro e
  have:(bn x).size=(Em x).length:=rfl
  rw [e] at this
  have h0:(bn x).size=0:=this
  omega
 have:=JW (zO x) h1
 rw [Fz] at this
 exact this
theorem X6 (x n:Nat) (h1:(bn x).size≤4*n) (h2:4*n≤(bn x).size+3):Can (pw (En (bn x)) (bn x).size) n∧lv (pw (En (bn x)) (bn x).size) n=x:=by
 have hv:lv (pw (En (bn x)) (bn x).size) n=x:=by rw [ahi _ h1,Sj,bJ]
 refine ⟨⟨fun j _=>OG (uS _) _ j,?_⟩,hv⟩
 rcases Nat.eq_zero_or_pos n with e|e
 ·exact .inl e
 ·right
  intro h0
  obtain ⟨k,rfl⟩ : ∃ k,n=k+1:=⟨n - 1,by omega⟩
  rw [Nat.add_sub_cancel] at h0
  rw [bf,h0,Nat.mul_zero,Nat.add_zero] at hv
  have h3:=tX (f:=pw (En (bn x)) (bn x).size) (n:=k) (fun j _=>OG (uS _) _ j)
  have h4:=Jq (x:=x) (by omega)
  have h5:LB ^ k≤256 ^ ((bn x).size - 1):=by rw [BX];exact Nat.pow_le_pow_right (by omega) (by omega)
  omega
set_option maxRecDepth 100000 in
theorem Gu (s:ByteArray) (w:World) (hs:s.size≤1073741824) :
  Calls Tryz.prog 151 #[.string s] w (eF w (nv s)):=by
 have hsz:=kW s
 obtain ⟨t,ht⟩ : ∃ t,t=bn (nv s):=⟨_,rfl⟩
 have HN:Hid (∀ w,Calls Tryz.prog 174 #[.string s] w fun e w'=>e = .returned (.string t)∧w=w'):=by
  rw [ht];exact fun w=>qH s w (by omega)
 rw [← ht] at hsz
 obtain ⟨n,hn1,hn2,hn⟩ : ∃ n,t.size≤4*n∧4*n≤t.size+3∧Hid (n=(t.size+3)/4):=⟨_,by omega,by omega,rfl⟩
 have HC:=Lib.hid (X6 (nv s) n (by rw [← ht];exact hn1) (by rw [← ht];exact hn2))
 rw [← ht] at HC
 clear ht
 go_enter Tryz.func151,Tryz.ntmps151
 go_wp2_with fail
 refine (HN.out _).mono ?_;rintro e w' ⟨rfl,rfl⟩
 go_wp2_with (refine cZ _ _ 135 138 .u32 4 n _ rfl rfl Tryz.underlying135 jP rfl rfl (by have:=hn.out;omega) (by omega) (by omega) ?_;intro w1 hr1 hb1 hz1)
 go_loopw [4] (fun i wr=>∃ k:Nat,i = .int .i64 k∧k≤t.size∧Row wr w.heap.size 138 .u32 n (pw (En t) k)∧Below w.heap.size w wr) (fun i _=>t.size - (intOf i).toNat)
 case atStart=>exact ⟨0,rfl,by omega,hr1.congr (fun j _=>(LJ _ _).symm),hb1⟩
 case round =>
  obtain ⟨k,rfl,hk,hrow,hbel⟩:=hrel
  clear hr1 hb1 hz1
  by_cases hlt:k<t.size
  ·have hcell:=hrow.cell (j:=k/4) (by omega)
   have hfr:=hrow.frozen (k/4)
   go_wp2
   have q2:((k:Int)/4).toNat=k/4:=by omega
   have q9:((t.size:Int) - 1 - k).toNat=t.size - 1 - k:=by omega
   refine wp_region_still_tail 23 (by kernel_rfl) (by kernel_rfl) ?_
   simp only [List.take_succ_cons,List.take_zero,List.drop_succ_cons,List.drop_zero]
   repeat (refine wpStill_step (fun K hK=>?_);go_simp;(try simp (disch:=omega) only [uP]);(first|(refine hK _ ?_;clear hK K)|(simp (disch:=omega) only [if_pos,dif_pos,if_neg,dif_neg,uP];go_simp;refine hK _ ?_;clear hK K)))
   refine wpStill_nil ?_
   change wpList _ _ _ _ _ (World.drew _)
   go_wp2
   go_round
   case rel =>
    refine ⟨k+1,by go_num,by omega,?_,(hbel.setCell (Nat.le_refl _) _).drew⟩
    have hb:=uS t k
    have hx:=aai (uS t) k
    have hy:=OG (uS t) (k+1) (k/4)
    rw [zS,upd_same] at hy
    rw [aah t k (by omega)]
    have e1:((En t k:Int)%4294967296)=(En t k:Int):=by omega
    have e2:(En t k:Int)*2 ^ (8*(k%4))%4294967296=(En t k:Int)*2 ^ (8*(k%4)):=by
     have:En t k*2 ^ (8*(k%4))<4294967296:=by unfold LB at hy;omega
     have h3:(En t k:Int)*2 ^ (8*(k%4))=((En t k*2 ^ (8*(k%4)):Nat):Int):=by push_cast;rfl
     rw [h3];omega
    rw [e1,e2,SA _ _ _ hx hy]
    exact (hrow.set (k/4) _).drew.congr fun j _=>(zS _ _ _).symm
   case measure=>simp [intOf];omega
  ·obtain rfl:k=t.size:=by omega
   have HR:=Lib.hid hrow
   clear hrow
   go_wp2
   go_ret
   exact ⟨_,n,n,rfl,Nat.le_refl _,by omega,⟨_,HC.out.2,HC.out.1,.inr ⟨_,0,rfl,HR.out.reads⟩⟩,hbel⟩
set_option maxRecDepth 100000 in
theorem aaE (a b:Option Addr) (la lb ca cb:Nat) (w:World) (h:la<lb) (h2:lb≤4294967296) :
  Calls Tryz.prog 193 #[.slice a la ca,.slice b lb cb] w fun e w'=>e = .returned (.int .i64 (-1))∧w=w':=by
 have HL2:((la:Int) != (lb:Int))=true:=by simp;omega
 have HL3:decide (la<lb)=true:=by simp;omega
 go_enter Tryz.func193,Tryz.ntmps193
 go_wp2
 go_ret
 exact ⟨rfl,rfl⟩
set_option maxRecDepth 100000 in
theorem aaF (a b:Option Addr) (la lb ca cb:Nat) (w:World) (h:lb<la) (h2:la≤4294967296) :
  Calls Tryz.prog 193 #[.slice a la ca,.slice b lb cb] w fun e w'=>e = .returned (.int .i64 1)∧w=w':=by
 have HL2:((la:Int) != (lb:Int))=true:=by simp;omega
 have HL3:decide (la<lb)=false:=by simp;omega
 go_enter Tryz.func193,Tryz.ntmps193
 go_wp2
 go_ret
 exact ⟨rfl,rfl⟩
set_option maxRecDepth 100000 in
theorem Ti (a b:Option Addr) (ca cb:Nat) (w:World) :
  Calls Tryz.prog 193 #[.slice a 0 ca,.slice b 0 cb] w fun e w'=>e = .returned (.int .i64 0)∧w=w':=by
 go_enter Tryz.func193,Tryz.ntmps193
 go_wp2
 go_loop [5] (fun v=>v = .int .i64 (-1)) (fun _=>0)
 case atStart=>exact rfl
 case round =>
  subst hrel
  go_wp2
  go_ret
  exact ⟨rfl,rfl⟩
set_option maxRecDepth 100000 in
theorem Tj (b1 o1 b2 o2 n c1 c2:Nat) (f g:Nat→Nat) (w:World) (hn:n≤4294967296) (hn0:0<n) (hf:Reads w b1 o1 .u32 n f) (hg:Reads w b2 o2 .u32 n g)
  (lf : ∀ j,j<n→f j<LB) (lg : ∀ j,j<n→g j<LB) :
  Calls Tryz.prog 193 #[.slice (some ⟨b1,o1,none⟩) n c1,.slice (some ⟨b2,o2,none⟩) n c2] w fun e w'=>e = .returned (.int .i64 (jK (lv f n) (lv g n)))∧Below w.heap.size w w':=by
 have Hlf:=Lib.hid lf
 have Hlg:=Lib.hid lg
 have Hf:=Lib.hid hf
 have Hg:=Lib.hid hg
 clear lf lg hf hg
 go_enter Tryz.func193,Tryz.ntmps193
 go_wp2
 go_loopw [5] (fun v wr=>∃ i:Int,v = .int .i64 i∧-1≤i∧i<n∧Hid (∀ j:Nat,i<j→j<n→f j=g j)∧∃ q,wr=w.drewN q) (fun v _=>(intOf v+1).toNat)
 case atStart=>exact ⟨(n:Int) - 1,rfl,by omega,by omega,fun j h1 h2=>by omega,0,rfl⟩
 case round =>
  obtain ⟨i,rfl,hi1,hi2,hall,q,rfl⟩:=hrel
  by_cases h0:i = -1
  ·subst h0
   have he:lv f n=lv g n:=kJ fun j hj=>hall.out j (by omega) hj
   have HE:=Lib.hid he
   clear he
   go_wp2
   go_ret
   exact ⟨aS (by rw [HE.out,EM]),below_drewN (Below.refl _ _) q⟩
  ·obtain ⟨m,rfl⟩:=Int.eq_ofNat_of_zero_le (show 0≤i by omega)
   have hm:(m:Int)<n:=hi2
   have hc1:=Hf.out m (by omega)
   have hc2:=Hg.out m (by omega)
   rcases (show f m<g m∨g m<f m∨f m=g m by omega) with h|h|h
   ·have t1:((f m:Int) != (g m:Int))=true:=by simp;omega
    have t2:((f m:Int)<(g m:Int)):=by omega
    have HR:=Lib.hid (oZ Hlf.out Hlg.out (show m<n by omega) (fun j h1 h2=>hall.out j (by omega) h2) h)
    go_wp2
    go_quiet (fail)
    go_wp2
    go_quiet (fail)
    go_wp2
    go_ret
    exact ⟨aS (lU HR.out).symm,below_drewN (below_drewN (below_drewN (Below.refl _ _) _) _) _⟩
   ·have t1:((f m:Int) != (g m:Int))=true:=by simp;omega
    have t2:decide ((f m:Int)<(g m:Int))=false:=by simp;omega
    have HR:=Lib.hid (oZ Hlg.out Hlf.out (show m<n by omega) (fun j h1 h2=>(hall.out j (by omega) h2).symm) h)
    go_wp2
    go_quiet (fail)
    go_wp2
    go_quiet (fail)
    go_wp2
    go_ret
    exact ⟨aS (rJ HR.out).symm,below_drewN (below_drewN (below_drewN (Below.refl _ _) _) _) _⟩
   ·rw [h] at hc1
    have H:=Lib.hid h
    clear h
    go_wp2
    go_quiet (fail)
    go_wp2
    go_roundw
    case rel=>exact ⟨(m:Int) - 1,rfl,by omega,by omega,fun j h1 h2=>by
     by_cases e:j=m
     ·subst e;exact H.out
     ·exact hall.out j (by omega) h2,_,rfl⟩
    case measure=>simp [intOf]
theorem CQ (a b:Option Addr) (la lb ca cb x y:Nat) (w:World) (h1:Limbs w a la x) (h2:Limbs w b lb y) (l1:la≤4294967296) (l2:lb≤4294967296) :
  Calls Tryz.prog 193 #[.slice a la ca,.slice b lb cb] w fun e w'=>e = .returned (.int .i64 (jK x y))∧Below w.heap.size w w':=by
 obtain ⟨f,rfl,hf,rf⟩:=h1
 obtain ⟨g,rfl,hg,rg⟩:=h2
 by_cases h:la=lb
 ·subst h
  by_cases h0:la=0
  ·subst h0
   exact (Ti a b ca cb w).mono fun e w' ⟨he,hw⟩=>⟨he,hw ▸ Below.refl _ _⟩
  ·rcases rf with rf|⟨b1,o1,rfl,r1⟩
   ·exact absurd rf h0
   rcases rg with rg|⟨b2,o2,rfl,r2⟩
   ·exact absurd rg h0
   exact Tj b1 o1 b2 o2 la ca cb f g w l1 (by omega) r1 r2 hf.1 hg.1
 ·rcases (show la<lb∨lb<la by omega) with c|c
  ·refine (aaE a b la lb ca cb w c l2).mono fun e w' ⟨he,hw⟩=>⟨he.trans (aS ?_),hw ▸ Below.refl _ _⟩
   rw [lU (hf.y9 hg c)]
  ·refine (aaF a b la lb ca cb w c l1).mono fun e w' ⟨he,hw⟩=>⟨he.trans (aS ?_),hw ▸ Below.refl _ _⟩
   rw [rJ (hg.y9 hf c)]
set_option maxRecDepth 100000 in
theorem short_walk (b1 o1 n c1 d:Nat) (f:Nat→Nat) (w:World) (hn:n≤1073741824) (hf:Reads w b1 o1 .u32 n f) (lf : ∀ j,j<n→f j<LB) (hd0:0<d) (hd:d<LB) (hn0:0<n) :
  Calls Tryz.prog 194 #[.slice (some ⟨b1,o1,none⟩) n c1,.int .u32 d] w (VO w (lv f n) d):=by
 have D0:(0:Int)<(d:Int):=by omega
 have D1:(d:Int)≤4294967295:=by unfold LB at hd;omega
 go_enter Tryz.func194,Tryz.ntmps194
 go_wp2_with (refine cZ _ _ 135 138 .u32 4 n _ rfl rfl Tryz.underlying135 jP rfl rfl (by omega) (by omega) (by omega) ?_;intro w3 hr3 hb3 hz3)
 go_loopw [7,8] (fun r i wr=>∃ (I:Int) (R:Nat),i = .int .i64 I∧-1≤I∧I<n∧r = .int .u64 (R:Int)∧(∃ O,Row wr w.heap.size 138 .u32 n O∧Ce f O n (I+1).toNat d R)∧Below w.heap.size w wr) (fun _ i _=>(intOf i+1).toNat)
 case atStart=>exact ⟨_,0,rfl,by omega,by omega,rfl,⟨_,hr3,by rw [show ((n:Int) - 1+1).toNat=n by omega];exact J4 _ _ _ _ hd0⟩,hb3⟩
 case round =>
  obtain ⟨I,R,rfl,hI1,hI2,rfl,⟨O,hrow,hdiv⟩,hbel⟩:=hrel
  clear hr3 hb3 hz3
  have hR:=hdiv.2.1
  by_cases h0:I = -1
  ·subst h0
   obtain ⟨e1,e2,e3⟩:=VI hdiv
   have E1:=Lib.hid e1
   have E2:=Lib.hid e2
   have E3:=Lib.hid e3
   have gV:=Lib.hid hrow
   clear e1 e2 e3 hrow hdiv
   go_wp2_with fail
   refine (Ko w w.heap.size n 138 _ _ (by omega) gV.out E3.out hbel).mono ?_
   rintro e w' ⟨a,len,cap,rfl,h1,h2,h3,h4⟩
   rw [E1.out] at h3
   go_wp2
   go_ret2
   exact ⟨a,len,cap,by rw [← E2.out];rfl,h1,h2,h3,h4⟩
  ·obtain ⟨m,rfl⟩:=Int.eq_ofNat_of_zero_le (show 0≤I by omega)
   rw [show ((m:Int)+1).toNat=m+1 by omega] at hdiv
   have hm:m<n:=by omega
   have hcell:=(hf.below hbel (hf.lt hn0)) m hm
   have hold:=hrow.cell (j:=m) hm
   have hfr:=hrow.frozen m
   have hor:=zk R (f m) (by omega) (lf m hm)
   have hst:=OT hdiv hm (lf m hm)
   have HST:=Lib.hid hst
   have gV:=Lib.hid hrow
   clear hst hrow hdiv
   have R0:(0:Int)≤(R:Int):=by omega
   have R1:(R:Int)≤4294967294:=by omega
   have FM:=lf m hm
   have F1:(f m:Int)≤4294967295:=by unfold LB at FM;omega
   go_wp2
   go_roundw
   case rel =>
    refine ⟨(m:Int) - 1,(R*LB+f m)%d,rfl,by omega,by omega,?_,⟨upd O m ((R*LB+f m)/d),?_,?_⟩,hbel.setCell (Nat.le_refl _) _⟩
    ·simp only [Int.natCast_emod,Int.natCast_add,Int.natCast_mul]
    ·rw [OX R (f m) d hR FM]
     exact gV.out.set m _
    ·rw [show ((m:Int) - 1+1).toNat=m by omega];exact HST.out
   case measure=>simp [intOf]
theorem Ap (f:Nat→Nat) (i t:Nat) (ht:t<4):lby f (4*i+t)=f i/2 ^ (8*t)%256:=by
 unfold lby
 rw [show (4*i+t)/4=i by omega,show (4*i+t)%4=t by omega]
set_option maxRecDepth 100000 in
theorem Gv (b off len cap:Nat) (f:Nat→Nat) (w:World) (hl:len≤268435456) (hcap:len≤cap) (hc:Reads w b off .u32 len f) (hf : ∀ j,j<len→f j<LB) (hb:0<len→b<w.heap.size) :
  Calls Tryz.prog 150 #[.slice (some ⟨b,off,none⟩) len cap] w fun e w'=>e = .returned (.string (bn (lv f len)))∧Below w.heap.size w w':=by
 have hn:=gI f len
 have HV:=Lib.hid (yj f len)
 have HS:=Lib.hid (fun w' (h:w' = w)=>vC b off len cap f (tY f len) w' (by omega) hcap (by rw [h];exact hc) (gI f len) (mX f len) (qF f len))
 generalize tY f len=n at *
 have HC:=Lib.hid hc
 have HF:=Lib.hid hf
 clear hc hf
 obtain ⟨i0,hi,hz0,hz1,hz2⟩:=info_parts FX
 go_enter Tryz.func150,Tryz.ntmps150
 go_wp2_with fail
 refine (HS.out w rfl).mono ?_;rintro e w' ⟨rfl,rfl⟩
 go_wp2_with (refine wpList_make_own _ rfl _ _ 179 rfl w.heap.size 5 i0 (.int .u8 0) 1 Tryz.underlying179 hi hz0 hz1 .i64 .i64 _ (4*n) rfl rfl (by omega) (by rw [hz2];omega) (by unfold maxLen;omega) (Nat.le_refl _) ?_;intro w1 ho1 hg1)
 have hb1:Below w.heap.size w w1:=(Below.refl _ _).grown hg1 (Nat.le_refl _) (fun k h=>by cases h)
 have HO1:Hid (sN w1 w.heap.size 5 .u8 (.slice (some ⟨w.heap.size,0,none⟩) 0 (4*n)) 0 (fun j=>lby f (4*n - 1 - j))):=ho1
 clear ho1 hg1
 go_loopw [3,4] (fun v i wr=>∃ I:Int,i = .int .i64 I∧-1≤I∧I<n∧sN wr w.heap.size 5 .u8 v (4*(n - (I+1).toNat)) (fun j=>lby f (4*n - 1 - j))∧Below w.heap.size w wr) (fun _ i _=>(intOf i+1).toNat)
 case atStart =>
  refine ⟨_,rfl,by omega,by omega,?_,hb1⟩
  rw [show 4*(n - ((n:Int) - 1+1).toNat)=0 by omega]
  exact HO1.out
 case round =>
  obtain ⟨I,rfl,hI1,hI2,hown,hbel⟩:=hrel
  clear hb1 HO1
  have HO:=Lib.hid hown
  clear hown
  by_cases h0:I = -1
  ·as_aux_lemma =>
   subst h0
   have hcv:=fun wx (h:sN wx w.heap.size 5 .u8 u3 (4*(n - ((-1:Int)+1).toNat)) (fun j=>lby f (4*n - 1 - j)))=>h.str (P:=Tryz.prog) (src:=179) (dst:=9) Tryz.underlying179 Tryz.underlying5 Tryz.underlying9
   have hcv2:=hcv _ HO.out
   have hnv:nv (⟨((List.range (4*(n - ((-1:Int)+1).toNat))).map fun j=>UInt8.ofNat (lby f (4*n - 1 - j))).toArray⟩:ByteArray)=lv f len:=by
    have h:=VE (fun j=>lby f (4*n - 1 - j)) (4*n) (fun j _=>Nat.mod_lt _ (by omega))
    unfold OJ at h
    rw [show 4*(n - ((-1:Int)+1).toNat)=4*n by omega,h,← HV.out,← aaj (fun j hj=>HF.out j (by omega))]
    apply zQ
    intro j hj
    congr 1;omega
   have hsz:(⟨((List.range (4*(n - ((-1:Int)+1).toNat))).map fun j=>UInt8.ofNat (lby f (4*n - 1 - j))).toArray⟩:ByteArray).size≤9223372036854775000:=by
    have h:(⟨((List.range (4*(n - ((-1:Int)+1).toNat))).map fun j=>UInt8.ofNat (lby f (4*n - 1 - j))).toArray⟩:ByteArray).size=4*(n - ((-1:Int)+1).toNat):=uf _ _
    omega
   generalize (⟨((List.range (4*(n - ((-1:Int)+1).toNat))).map fun j=>UInt8.ofNat (lby f (4*n - 1 - j))).toArray⟩:ByteArray)=t at *
   have HNV:=Lib.hid hnv
   clear hnv hcv HO
   go_wp2_with fail
   refine (qH _ _ hsz).mono ?_;rintro e w' ⟨rfl,rfl⟩
   go_wp2
   go_ret
   exact ⟨pF (by rw [HNV.out]),hbel⟩
  ·as_aux_lemma =>
   obtain ⟨m,rfl⟩:=Int.eq_ofNat_of_zero_le (show 0≤I by omega)
   have hm:m<n:=by omega
   have hcell:=(HC.out.below hbel (hb (by omega))) m (by omega)
   have fm:=HF.out m (by omega)
   have f1:(f m:Int)≤4294967295:=by unfold LB at fm;omega
   have hsz:=hbel.size
   have hk:4*(n - ((m:Int)+1).toNat)=4*(n - 1 - m):=by omega
   have HO2:Hid (sN wr w.heap.size 5 .u8 u3 (4*(n - 1 - m)) (fun j=>lby f (4*n - 1 - j))):=by
    have:=HO.out;rw [hk] at this;exact this
   clear HO hk
   go_wp2_with (at_builtin;refine FI _ _ 179 5 .u8 1 w.heap.size _ _ _ (f m/16777216%256) (f m/65536%256) (f m/256%256) (f m%256) _ _ _ _ rfl rfl Tryz.underlying179 FX rfl rfl (by omega) (by omega) (by omega) (by omega) HO2.out (by omega) (by omega) hsz ?_;intro v' w2 ho2 hb2)
   go_roundw
   case rel =>
    refine ⟨(m:Int) - 1,rfl,by omega,by omega,?_,hbel.trans hb2⟩
    have e:=ho2.congr (g:=fun j=>lby f (4*n - 1 - j)) (fun j hj=>by
     by_cases h4:j<4*(n - 1 - m)
     ·rw [if_pos h4]
     ·rw [if_neg h4]
      rcases (show j=4*(n - 1 - m)∨j=4*(n - 1 - m)+1∨j=4*(n - 1 - m)+2∨j=4*(n - 1 - m)+3 by omega) with h|h|h|h
      ·rw [h,show 4*n - 1 - 4*(n - 1 - m)=4*m+3 by omega,Ap f m 3 (by omega)];simp
      ·rw [h,show 4*n - 1 - (4*(n - 1 - m)+1)=4*m+2 by omega,Ap f m 2 (by omega),Nat.add_sub_cancel_left];simp
      ·rw [h,show 4*n - 1 - (4*(n - 1 - m)+2)=4*m+1 by omega,Ap f m 1 (by omega),Nat.add_sub_cancel_left];simp
      ·rw [h,show 4*n - 1 - (4*(n - 1 - m)+3)=4*m+0 by omega,Ap f m 0 (by omega),Nat.add_sub_cancel_left];simp)
    rw [show 4*(n - ((m:Int) - 1+1).toNat)=4*(n - 1 - m)+4 by omega]
    exact e
   case measure=>simp [intOf]
set_option maxRecDepth 100000 in
theorem Tm (a:Option Addr) (cap:Nat) (w:World) :
  Calls Tryz.prog 173 #[.slice a 0 cap] w fun e w'=>e = .returned (.slice a 0 cap)∧w=w':=by
 go_enter Tryz.func173,Tryz.ntmps173
 go_wp2
 go_loop [3] (fun i=>i = .int .i64 0) (fun _=>0)
 case atStart=>exact rfl
 case round =>
  subst hrel
  cases a with
  | none =>
   go_wp2
   go_ret
   exact ⟨rfl,rfl⟩
  | some p =>
   go_wp2
   go_ret
   exact ⟨rfl,rfl⟩
set_option maxRecDepth 100000 in
theorem Tn (a:Option Addr) (cap:Nat) (w:World) :
  Calls Tryz.prog 150 #[.slice a 0 cap] w fun e w'=>e = .returned (.string (bn 0))∧Below w.heap.size w w':=by
 obtain ⟨i0,hi,hz0,hz1,hz2⟩:=info_parts FX
 go_enter Tryz.func150,Tryz.ntmps150
 go_wp2_with fail
 refine (Tm a cap w).mono ?_;rintro e w' ⟨rfl,rfl⟩
 go_wp2_with (refine wpList_make_own _ rfl _ _ 179 rfl w.heap.size 5 i0 (.int .u8 0) 1 Tryz.underlying179 hi hz0 hz1 .i64 .i64 _ 0 rfl rfl rfl (by rw [hz2];omega) (by unfold maxLen;omega) (Nat.le_refl _) ?_;intro w1 ho1 hg1)
 have hb1:Below w.heap.size w w1:=(Below.refl _ _).grown hg1 (Nat.le_refl _) (fun k h=>by cases h)
 have HO1:Hid (sN w1 w.heap.size 5 .u8 (.slice (some ⟨w.heap.size,0,none⟩) 0 0) 0 (fun _=>0)):=ho1
 have hcv:=HO1.out.str (P:=Tryz.prog) (src:=179) (dst:=9) Tryz.underlying179 Tryz.underlying5 Tryz.underlying9
 clear ho1 hg1
 go_loopw [3,4] (fun v i wr=>v = .slice (some ⟨w.heap.size,0,none⟩) 0 0∧i = .int .i64 (-1)∧wr=w1) (fun _ _ _=>0)
 case atStart=>exact ⟨rfl,rfl,rfl⟩
 case round =>
  obtain ⟨rfl,rfl,rfl⟩:=hrel
  go_wp2_with fail
  refine (qH _ _ ?_).mono ?_
  ·show (0:Nat)≤_;omega
  rintro e w' ⟨rfl,rfl⟩
  go_wp2
  go_ret
  exact ⟨rfl,hb1⟩
theorem jY (a:Option Addr) (len cap x:Nat) (w:World) (h:Limbs w a len x) (hl:len≤268435456) (hcap:len≤cap) :
  Calls Tryz.prog 150 #[.slice a len cap] w fun e w'=>e = .returned (.string (bn x))∧Below w.heap.size w w':=by
 obtain ⟨f,rfl,h2,h3⟩:=h
 rcases h3 with rfl|⟨b,off,rfl,hr⟩
 ·exact Tn a cap w
 ·exact Gv b off len cap f w hl hcap hr h2.1 (fun h=>hr.lt h)
set_option maxRecDepth 100000 in
theorem sS (u:Nat) (w:World) (hu:u<18446744073709551616) :
  Calls Tryz.prog 119 #[.int .u64 (u:Int)] w fun e w'=>e = .returned (.string (bn u))∧Below w.heap.size w w':=by
 have e1:((u:Int)%4294967296)=((u%4294967296:Nat):Int):=by omega
 have e2:((u:Int)/4294967296)=((u/4294967296:Nat):Int):=by omega
 obtain ⟨x,hx⟩ : ∃ x,x=u%4294967296:=⟨_,rfl⟩
 obtain ⟨y,hy⟩ : ∃ y,y=u/4294967296:=⟨_,rfl⟩
 have hyl:y<4294967296:=by omega
 have hu2:(u:Int)≤18446744073709551615:=by omega
 have hlv:lv (fun j=>if j=0 then x else y) 2=u:=by simp [lv];unfold LB;omega
 have hlim : ∀ j,j<2→(if j=0 then x else y)<LB:=by intro j _;unfold LB;split <;> omega
 have an2:(y:Int)%4294967296=y:=by omega
 rw [← hx] at e1
 rw [← hy] at e2
 have HLV:=Lib.hid hlv
 have HLM:=Lib.hid hlim
 clear hx hy hlv hlim
 go_enter Tryz.func119,Tryz.ntmps119
 go_wp2_with fail
 have hrow:=VT w 138 x y
 refine (Gv w.heap.size 0 2 2 _ _ (by omega) (by omega) hrow.reads HLM.out (fun _=>hrow.lt)).mono ?_
 rintro e w4 ⟨rfl,hb4⟩
 rw [HLV.out]
 clear hrow
 go_wp2
 go_ret
 exact ⟨rfl,((Below.refl _ _).alloc (Nat.le_refl _) _).trans (hb4.mono (by simp))⟩
theorem X7 (u s:Nat) (hs:s<32) (hu:u<LB) :
  IntKind.u64.wrap ((u:Int)*2 ^ s)/4294967296%4294967296=((u*2 ^ s/LB:Nat):Int):=by
 have h1:=F8 hs hu
 have h2:2 ^ s≤LB:=by rw [qG (Nat.le_of_lt hs)];exact Nat.le_mul_of_pos_left _ (Nat.pow_pos (by omega))
 rw [Gq u s hs hu]
 rw [qC] at *
 generalize u*2 ^ s=x at *
 omega
set_option maxRecDepth 100000 in
theorem Aq (b1 o1 la c1 s:Nat) (f:Nat→Nat) (w:World) (hn:la≤1073741824) (hf:Reads w b1 o1 .u32 la f) (lf : ∀ j,j<la→f j<LB) (hs:s<32) (hla:0<la) :
  Calls Tryz.prog 206 #[.slice (some ⟨b1,o1,none⟩) la c1,.int .u64 (s:Int)] w (aaB w 138 (la+1) (lv f la*2 ^ s)):=by
 go_enter Tryz.func206,Tryz.ntmps206
 go_wp2_with (refine cZ _ _ 135 138 .u32 4 (la+1) _ rfl rfl Tryz.underlying135 jP rfl rfl (by omega) (by omega) (by omega) ?_;intro w3 hr3 hb3 hz3)
 go_loopw [6] (fun i wr=>∃ k:Nat,i = .int .i64 k∧k≤la∧(∃ O,Row wr w.heap.size 138 .u32 (la+1) O∧Ci f O (la+1) k s)∧Below w.heap.size w wr) (fun i _=>la - (intOf i).toNat)
 case atStart=>exact ⟨0,rfl,by omega,⟨_,hr3,J5 f (la+1) s⟩,hb3⟩
 case round =>
  obtain ⟨k,rfl,hk,⟨O,hrow,hsh⟩,hbel⟩:=hrel
  clear hr3 hb3 hz3
  by_cases hlt:k<la
  ·have hcell:=(hf.below hbel (hf.lt hla)) k hlt
   have hold:=hrow.cell (j:=k) (by omega)
   have hfr:=hrow.frozen k
   have fk:=lf k hlt
   have F1:(f k:Int)≤4294967295:=by unfold LB at fk;omega
   have gV:=Lib.hid hrow
   have HSH:=Lib.hid hsh
   have J8:=gV.out.cell (j:=k+1) (by omega)
   have hfr2:=gV.out.frozen (k+1)
   rw [HSH.out.2.2.2 (k+1) (by omega)] at J8
   clear hsh hrow hf lf
   go_wp2
   go_roundw
   case rel =>
    refine ⟨k+1,by go_num,by omega,⟨_,?_,OU HSH.out hs fk (by omega)⟩,?_⟩
    ·rw [CJ _ _ _ hs HSH.out.2.2.1 fk,X7 _ _ hs fk]
     exact (gV.out.set k _).set (k+1) _
    ·exact (hbel.setCell (Nat.le_refl _) _).setCell (Nat.le_refl _) _
   case measure=>simp [intOf];omega
  ·obtain rfl:k=la:=by omega
   have HF:=Lib.hid hsh
   have gV:=Lib.hid hrow
   clear hsh hrow hf lf
   go_wp2
   go_ret
   exact ⟨O,rfl,gV.out,HF.out.1,HF.out.2.1,hbel⟩
end Go.Proofs.Ins
