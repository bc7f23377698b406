/- The walks of insolvencyref1: text, FromUint, plus. -/
import Derived.Test.YtiaefgffeekfkaaGreatDoorY6
set_option linter.unusedSimpArgs false
set_option linter.unusedVariables false
set_option maxHeartbeats 8000000
namespace Go.Proofs.Ins
open Go.RowKit
theorem bv_drop (l:List UInt8) (k:Nat) (h : ∀ j,j<k→l.getD j 0=0):bv (l.drop k)=bv l:=by
 induction k generalizing l with
 | zero=>rfl
 | succ k ih =>
  cases l with
  | nil=>rfl
  | cons x l =>
   have hx:x=0:=by simpa using h 0 (by omega)
   rw [List.drop_succ_cons,ih l (fun j hj=>by simpa using h (j+1) (by omega)),bv_cons,hx]
   simp
theorem extract_norm (s:ByteArray) (k:Nat) (hk:k≤s.size) (h : ∀ j,j<k→s.data.toList.getD j 0=0) (h2:k=s.size∨s.data.toList.getD k 0≠0):s.extract k s.size=bn (nv s):=by
 have e:(s.extract k s.size).data.toList=s.data.toList.drop k:=by
  rw [Lib.extract_data,List.take_of_length_le]
  rw [List.length_drop,size_toList]
  exact Nat.le_refl _
 have e2:nv (s.extract k s.size)=nv s:=by unfold nv;rw [e];exact bv_drop _ _ h
 rw [← e2]
 symm
 apply bn_unique
 rw [e]
 rcases h2 with h2|h2
 ·rw [List.drop_eq_nil_of_le (by rw [size_toList];omega)];simp
 ·rw [List.head?_drop]
  rw [List.getD_eq_getElem?_getD] at h2
  intro h3
  rw [h3] at h2
  exact h2 rfl
theorem getD_eq (s:ByteArray) (k:Nat) (h:k<s.size):s.data.toList.getD k 0=s[k]'h:=by
 rw [List.getD_eq_getElem?_getD,List.getElem?_eq_getElem (by rw [size_toList];exact h)]
 rfl
set_option maxRecDepth 100000 in
theorem rNormalize_any (s:ByteArray) (w:World) (hs:s.size≤9223372036854775000) :
  Calls Tryz.prog 123 #[.string s] w fun e w'=>e = .returned (.string (bn (nv s)))∧w=w':=by
 go_enter Tryz.func123,Tryz.ntmps123
 go_wp2
 go_loop [3] (fun v=>∃ k:Nat,v = .int .i64 k∧k≤s.size∧Hid (∀ j,j<k→s.data.toList.getD j 0=0)) (fun v=>s.size - (intOf v).toNat)
 case atStart=>exact ⟨0,rfl,by omega,fun j hj=>by omega⟩
 case round =>
  obtain ⟨k,rfl,hk,hz⟩:=hrel
  by_cases hlt:k<s.size
  ·have hgd:=Lib.hid (getD_eq s k hlt)
   by_cases h0:s[k].toNat=0
   ·have h0' : (s[k].toNat:Int)=0:=by omega
    have HZ:=Lib.hid h0
    clear h0
    go_wp2
    go_round
    case rel=>exact ⟨k+1,by go_num,by omega,fun j hj=>by
     by_cases e:j=k
     ·subst e;rw [hgd.out];exact UInt8.toNat_inj.mp (by rw [HZ.out];rfl)
     ·exact hz.out j (by omega)⟩
    case measure=>simp [intOf];omega
   ·have h0' : ((s[k].toNat:Int) == 0)=false:=by simp;omega
    have hx:=Lib.hid (extract_norm s k hk hz.out (.inr (by rw [hgd.out];intro e;rw [e] at h0;exact h0 rfl)))
    clear h0
    go_wp2
    go_ret
    exact ⟨ret_str hx.out,rfl⟩
  ·obtain rfl:k=s.size:=by omega
   have hx:=Lib.hid (extract_norm s s.size hk hz.out (.inl rfl))
   go_wp2
   go_ret
   exact ⟨ret_str (by rw [← hx.out];simp),rfl⟩
theorem strip_walk (b off len cap:Nat) (xs:Nat→Nat) (n:Nat) (w:World) (hl:len≤4294967296) (hcap:len≤cap)
  (hc : ∀ j,j<len→w.cell? ⟨b,off+j,none⟩=some (.int .u32 (xs j)))
  (hn:n≤len) (hz : ∀ j,n≤j→j<len→xs j=0) (hnz:n=0∨xs (n-1)≠0) :
  Calls Tryz.prog 186 #[.slice (some ⟨b,off,none⟩) len cap] w fun e w'=>e = .returned (.slice (some ⟨b,off,none⟩) n cap)∧w=w':=by
 go_enter Tryz.func186,Tryz.ntmps186
 go_wp2
 go_loop [3] (fun i=>∃ k:Nat,i = .int .i64 k∧n≤k∧k≤len) (fun i=>(intOf i).toNat)
 case atStart=>exact ⟨len,rfl,hn,by omega⟩
 case round =>
  obtain ⟨k,rfl,h1,h2⟩:=hrel
  by_cases hk:k=n
  ·subst hk
   by_cases h0:k=0
   ·subst h0
    go_wp2
    go_ret
    exact ⟨rfl,rfl⟩
   ·have h3:xs (k-1)≠0:=by omega
    have hcell:=hc (k-1) (by omega)
    clear hc hz
    have hb:((xs (k-1):Int) == 0)=false:=by simp;omega
    go_wp2
    go_ret
    exact ⟨rfl,rfl⟩
  ·have hcell:=hc (k-1) (by omega)
   have hz1:=hz (k-1) (by omega) (by omega)
   clear hc hz
   rw [hz1] at hcell
   clear hz1
   go_wp2
   go_round
   case rel=>exact ⟨k-1,by go_num,by omega,by omega⟩
   case measure=>simp [intOf];omega
theorem strip_row (w0:World) (b len:Nat) (T:TypeId) (f:Nat→Nat) (w:World) (hl:len≤4294967296) (hr:Row w b T .u32 len f) (hf : ∀ j,j<len→f j<LB) (hbel:Below w0.heap.size w0 w) :
  Calls Tryz.prog 186 #[.slice (some ⟨b,0,none⟩) len len] w (RetLimbs w0 (lv f len)) :=
 (strip_walk b 0 len len f (tlen f len) w hl (Nat.le_refl _) hr.reads (tlen_le f len) (tlen_zero f len) (tlen_top f len)).mono (by
  rintro e w' ⟨rfl,rfl⟩
  refine ⟨_,_,_,rfl,tlen_le f len,(by omega),⟨f,tlen_lv f len,tlen_can hf,?_⟩,hbel⟩
  exact .inr ⟨b,0,rfl,fun j hj=>hr.reads j (Nat.lt_of_lt_of_le hj (tlen_le f len))⟩)
theorem bn_size_lower {x:Nat} (h:0<(bn x).size):256 ^ ((bn x).size - 1)≤x:=by
 have h1:bnL x≠[]:=by
  intro e
  have:(bn x).size=(bnL x).length:=rfl
  rw [e] at this
  have h0:(bn x).size=0:=this
  omega
 have:=bv_ge (bnL_head x) h1
 rw [bv_bnL] at this
 exact this
theorem limbs_can (x n:Nat) (h1:(bn x).size≤4*n) (h2:4*n≤(bn x).size+3):Can (pw (byt (bn x)) (bn x).size) n∧lv (pw (byt (bn x)) (bn x).size) n=x:=by
 have hv:lv (pw (byt (bn x)) (bn x).size) n=x:=by rw [lv_pw _ h1,bl_byt,nv_bn]
 refine ⟨⟨fun j _=>pw_lt (byt_lt _) _ j,?_⟩,hv⟩
 rcases Nat.eq_zero_or_pos n with e|e
 ·exact .inl e
 ·right
  intro h0
  obtain ⟨k,rfl⟩ : ∃ k,n=k+1:=⟨n - 1,by omega⟩
  rw [Nat.add_sub_cancel] at h0
  rw [lv_succ,h0,Nat.mul_zero,Nat.add_zero] at hv
  have h3:=lv_lt (f:=pw (byt (bn x)) (bn x).size) (n:=k) (fun j _=>pw_lt (byt_lt _) _ j)
  have h4:=bn_size_lower (x:=x) (by omega)
  have h5:LB ^ k≤256 ^ ((bn x).size - 1):=by rw [LB_pow];exact Nat.pow_le_pow_right (by omega) (by omega)
  omega
set_option maxRecDepth 100000 in
theorem rlimbs_any (s:ByteArray) (w:World) (hs:s.size≤1073741824) :
  Calls Tryz.prog 145 #[.string s] w (RetLimbs w (nv s)):=by
 have hsz:=bn_size_of s
 obtain ⟨t,ht⟩ : ∃ t,t=bn (nv s):=⟨_,rfl⟩
 have HN:Hid (∀ w,Calls Tryz.prog 123 #[.string s] w fun e w'=>e = .returned (.string t)∧w=w'):=by
  rw [ht];exact fun w=>rNormalize_any s w (by omega)
 rw [← ht] at hsz
 obtain ⟨n,hn1,hn2,hn⟩ : ∃ n,t.size≤4*n∧4*n≤t.size+3∧Hid (n=(t.size+3)/4):=⟨_,by omega,by omega,rfl⟩
 have HC:=Lib.hid (limbs_can (nv s) n (by rw [← ht];exact hn1) (by rw [← ht];exact hn2))
 rw [← ht] at HC
 clear ht
 go_enter Tryz.func145,Tryz.ntmps145
 go_wp2_with fail
 refine (HN.out _).mono ?_;rintro e w' ⟨rfl,rfl⟩
 go_wp2_with (refine wpList_makeT _ _ 176 179 .u32 4 n _ rfl rfl Tryz.underlying176 u32info rfl rfl (by have:=hn.out;omega) (by omega) (by omega) ?_;intro w1 hr1 hb1 hz1)
 go_loopw [4] (fun i wr=>∃ k:Nat,i = .int .i64 k∧k≤t.size∧Row wr w.heap.size 179 .u32 n (pw (byt t) k)∧Below w.heap.size w wr) (fun i _=>t.size - (intOf i).toNat)
 case atStart=>exact ⟨0,rfl,by omega,hr1.congr (fun j _=>(pw_zero _ _).symm),hb1⟩
 case round =>
  obtain ⟨k,rfl,hk,hrow,hbel⟩:=hrel
  clear hr1 hb1 hz1
  by_cases hlt:k<t.size
  ·have hcell:=hrow.cell (j:=k/4) (by omega)
   have hfr:=hrow.frozen (k/4)
   go_wp2
   have q2:((k:Int)/4).toNat=k/4:=by omega
   have q9:((t.size:Int) - 1 - k).toNat=t.size - 1 - k:=by omega
   refine wp_region_still_tail 23 (by kernel_rfl) (by kernel_rfl) ?_
   simp only [List.take_succ_cons,List.take_zero,List.drop_succ_cons,List.drop_zero]
   repeat (refine wpStill_step (fun K hK=>?_);go_simp;(try simp (disch:=omega) only [ar9]);(first|(refine hK _ ?_;clear hK K)|(simp (disch:=omega) only [if_pos,dif_pos,if_neg,dif_neg,ar9];go_simp;refine hK _ ?_;clear hK K)))
   refine wpStill_nil ?_
   change wpList _ _ _ _ _ (World.drew _)
   go_wp2
   go_round
   case rel =>
    refine ⟨k+1,by go_num,by omega,?_,(hbel.setCell (Nat.le_refl _) _).drew⟩
    have hb:=byt_lt t k
    have hx:=pw_low (byt_lt t) k
    have hy:=pw_lt (byt_lt t) (k+1) (k/4)
    rw [pw_next,upd_same] at hy
    rw [byt_eq t k (by omega)]
    have e1:((byt t k:Int)%4294967296)=(byt t k:Int):=by omega
    have e2:(byt t k:Int)*2 ^ (8*(k%4))%4294967296=(byt t k:Int)*2 ^ (8*(k%4)):=by
     have:byt t k*2 ^ (8*(k%4))<4294967296:=by unfold LB at hy;omega
     have h3:(byt t k:Int)*2 ^ (8*(k%4))=((byt t k*2 ^ (8*(k%4)):Nat):Int):=by push_cast;rfl
     rw [h3];omega
    rw [e1,e2,or_u32 _ _ _ hx hy]
    exact (hrow.set (k/4) _).drew.congr fun j _=>(pw_next _ _ _).symm
   case measure=>simp [intOf];omega
  ·obtain rfl:k=t.size:=by omega
   have HR:=Lib.hid hrow
   clear hrow
   go_wp2
   go_ret
   exact ⟨_,n,n,rfl,Nat.le_refl _,by omega,⟨_,HC.out.2,HC.out.1,.inr ⟨_,0,rfl,HR.out.reads⟩⟩,hbel⟩
set_option maxRecDepth 100000 in
theorem order_lt (a b:Option Addr) (la lb ca cb:Nat) (w:World) (h:la<lb) (h2:lb≤4294967296) :
  Calls Tryz.prog 148 #[.slice a la ca,.slice b lb cb] w fun e w'=>e = .returned (.int .i64 (-1))∧w=w':=by
 have HL2:((la:Int) != (lb:Int))=true:=by simp;omega
 have HL3:decide (la<lb)=true:=by simp;omega
 go_enter Tryz.func148,Tryz.ntmps148
 go_wp2
 go_ret
 exact ⟨rfl,rfl⟩
set_option maxRecDepth 100000 in
theorem order_gt (a b:Option Addr) (la lb ca cb:Nat) (w:World) (h:lb<la) (h2:la≤4294967296) :
  Calls Tryz.prog 148 #[.slice a la ca,.slice b lb cb] w fun e w'=>e = .returned (.int .i64 1)∧w=w':=by
 have HL2:((la:Int) != (lb:Int))=true:=by simp;omega
 have HL3:decide (la<lb)=false:=by simp;omega
 go_enter Tryz.func148,Tryz.ntmps148
 go_wp2
 go_ret
 exact ⟨rfl,rfl⟩
set_option maxRecDepth 100000 in
theorem order_zero (a b:Option Addr) (ca cb:Nat) (w:World) :
  Calls Tryz.prog 148 #[.slice a 0 ca,.slice b 0 cb] w fun e w'=>e = .returned (.int .i64 0)∧w=w':=by
 go_enter Tryz.func148,Tryz.ntmps148
 go_wp2
 go_loop [5] (fun v=>v = .int .i64 (-1)) (fun _=>0)
 case atStart=>exact rfl
 case round =>
  subst hrel
  go_wp2
  go_ret
  exact ⟨rfl,rfl⟩
set_option maxRecDepth 100000 in
theorem order_walk (b1 o1 b2 o2 n c1 c2:Nat) (f g:Nat→Nat) (w:World) (hn:n≤4294967296) (hn0:0<n) (hf:Reads w b1 o1 .u32 n f) (hg:Reads w b2 o2 .u32 n g)
  (lf : ∀ j,j<n→f j<LB) (lg : ∀ j,j<n→g j<LB) :
  Calls Tryz.prog 148 #[.slice (some ⟨b1,o1,none⟩) n c1,.slice (some ⟨b2,o2,none⟩) n c2] w fun e w'=>e = .returned (.int .i64 (cmpN (lv f n) (lv g n)))∧Below w.heap.size w w':=by
 have Hlf:=Lib.hid lf
 have Hlg:=Lib.hid lg
 have Hf:=Lib.hid hf
 have Hg:=Lib.hid hg
 clear lf lg hf hg
 go_enter Tryz.func148,Tryz.ntmps148
 go_wp2
 go_loopw [5] (fun v wr=>∃ i:Int,v = .int .i64 i∧-1≤i∧i<n∧Hid (∀ j:Nat,i<j→j<n→f j=g j)∧∃ q,wr=w.drewN q) (fun v _=>(intOf v+1).toNat)
 case atStart=>exact ⟨(n:Int) - 1,rfl,by omega,by omega,fun j h1 h2=>by omega,0,rfl⟩
 case round =>
  obtain ⟨i,rfl,hi1,hi2,hall,q,rfl⟩:=hrel
  by_cases h0:i = -1
  ·subst h0
   have he:lv f n=lv g n:=lv_congr fun j hj=>hall.out j (by omega) hj
   have HE:=Lib.hid he
   clear he
   go_wp2
   go_ret
   exact ⟨ret_int (by rw [HE.out,cmpN_eq]),below_drewN (Below.refl _ _) q⟩
  ·obtain ⟨m,rfl⟩:=Int.eq_ofNat_of_zero_le (show 0≤i by omega)
   have hm:(m:Int)<n:=hi2
   have hc1:=Hf.out m (by omega)
   have hc2:=Hg.out m (by omega)
   rcases (show f m<g m∨g m<f m∨f m=g m by omega) with h|h|h
   ·have t1:((f m:Int) != (g m:Int))=true:=by simp;omega
    have t2:((f m:Int)<(g m:Int)):=by omega
    have HR:=Lib.hid (lv_lt_of_top Hlf.out Hlg.out (show m<n by omega) (fun j h1 h2=>hall.out j (by omega) h2) h)
    go_wp2
    go_quiet (fail)
    go_wp2
    go_quiet (fail)
    go_wp2
    go_ret
    exact ⟨ret_int (cmpN_lt HR.out).symm,below_drewN (below_drewN (below_drewN (Below.refl _ _) _) _) _⟩
   ·have t1:((f m:Int) != (g m:Int))=true:=by simp;omega
    have t2:decide ((f m:Int)<(g m:Int))=false:=by simp;omega
    have HR:=Lib.hid (lv_lt_of_top Hlg.out Hlf.out (show m<n by omega) (fun j h1 h2=>(hall.out j (by omega) h2).symm) h)
    go_wp2
    go_quiet (fail)
    go_wp2
    go_quiet (fail)
    go_wp2
    go_ret
    exact ⟨ret_int (cmpN_gt HR.out).symm,below_drewN (below_drewN (below_drewN (Below.refl _ _) _) _) _⟩
   ·rw [h] at hc1
    have H:=Lib.hid h
    clear h
    go_wp2
    go_quiet (fail)
    go_wp2
    go_roundw
    case rel=>exact ⟨(m:Int) - 1,rfl,by omega,by omega,fun j h1 h2=>by
     by_cases e:j=m
     ·subst e;exact H.out
     ·exact hall.out j (by omega) h2,_,rfl⟩
    case measure=>simp [intOf]
theorem order_any (a b:Option Addr) (la lb ca cb x y:Nat) (w:World) (h1:Limbs w a la x) (h2:Limbs w b lb y) (l1:la≤4294967296) (l2:lb≤4294967296) :
  Calls Tryz.prog 148 #[.slice a la ca,.slice b lb cb] w fun e w'=>e = .returned (.int .i64 (cmpN x y))∧Below w.heap.size w w':=by
 obtain ⟨f,rfl,hf,rf⟩:=h1
 obtain ⟨g,rfl,hg,rg⟩:=h2
 by_cases h:la=lb
 ·subst h
  by_cases h0:la=0
  ·subst h0
   exact (order_zero a b ca cb w).mono fun e w' ⟨he,hw⟩=>⟨he,hw ▸ Below.refl _ _⟩
  ·rcases rf with rf|⟨b1,o1,rfl,r1⟩
   ·exact absurd rf h0
   rcases rg with rg|⟨b2,o2,rfl,r2⟩
   ·exact absurd rg h0
   exact order_walk b1 o1 b2 o2 la ca cb f g w l1 (by omega) r1 r2 hf.1 hg.1
 ·rcases (show la<lb∨lb<la by omega) with c|c
  ·refine (order_lt a b la lb ca cb w c l2).mono fun e w' ⟨he,hw⟩=>⟨he.trans (ret_int ?_),hw ▸ Below.refl _ _⟩
   rw [cmpN_lt (hf.len_lt hg c)]
  ·refine (order_gt a b la lb ca cb w c l1).mono fun e w' ⟨he,hw⟩=>⟨he.trans (ret_int ?_),hw ▸ Below.refl _ _⟩
   rw [cmpN_gt (hg.len_lt hf c)]
theorem minus_rel {F G C:Nat} {f g:Nat→Nat} {k lx:Nat} {w2 wr:World} {T:TypeId}
  (hF:f k=F) (hG:g k=G) (hC:bor f g k=C) (lF:F<LB) (lG:G<LB) (hrow:Row wr w2.heap.size T .u32 lx (ext (ddg f g) k)) (hbel:Below w2.heap.size w2 wr) (hk:k<lx) (dg:Int) (hdg:dg=((F+LB*(if F<G+C then 1 else 0) - G - C:Nat):Int)) :
  Row (wr.setCell ⟨w2.heap.size,k,none⟩ (.int .u32 dg)) w2.heap.size T .u32 lx (ext (ddg f g) (k+1)) ∧
   Below w2.heap.size w2 (wr.setCell ⟨w2.heap.size,k,none⟩ (.int .u32 dg)):=by
 refine ⟨?_,hbel.setCell (Nat.le_refl _) _⟩
 have e1:dg=((ddg f g k:Nat):Int):=by
  rw [hdg];unfold ddg;rw [bor_succ,hF,hG,hC]
 rw [e1]
 exact (hrow.set k _).congr fun j _=>ext_upd _ k _ rfl j
set_option maxRecDepth 100000 in
theorem minus_any (ax ay:Option Addr) (lx ly cx cy x y:Nat) (w:World) (hX:Limbs w ax lx x) (hY:Limbs w ay ly y) (hle:y≤x) (hl:lx≤1073741824) :
  Calls Tryz.prog 149 #[.slice ax lx cx,.slice ay ly cy] w (RetLimbs w (x - y)):=by
 obtain ⟨fx,hX⟩:=hX
 obtain ⟨fy,hY⟩:=hY
 have HX:Hid (LimbsF w ax lx x fx):=hX
 have HY:Hid (LimbsF w ay ly y fy):=hY
 clear hX hY
 have hly:ly≤lx:=by
  rcases Nat.lt_or_ge lx ly with h|h
  ·have:=HX.out.2.1.len_lt HY.out.2.1 h
   rw [HX.out.1,HY.out.1] at this;omega
  ·exact h
 go_enter Tryz.func149,Tryz.ntmps149
 go_wp2_with (refine wpList_makeT _ _ 176 179 .u32 4 lx _ rfl rfl Tryz.underlying176 u32info rfl rfl (by omega) (by omega) (by omega) ?_;intro w3 hr3 hb3 hz3)
 go_loopw [6,7] (fun c i wr=>∃ k:Nat,i = .int .i64 k∧k≤lx∧c = .int .u64 (bor (ext fx lx) (ext fy ly) k)∧Row wr w.heap.size 179 .u32 lx (ext (ddg (ext fx lx) (ext fy ly)) k)∧Below w.heap.size w wr) (fun _ i _=>lx - (intOf i).toNat)
 case atStart=>exact ⟨0,rfl,by omega,rfl,hr3.congr (fun j _=>by rw [ext_out (by omega)]),hb3⟩
 case round =>
  obtain ⟨k,rfl,hk,rfl,hrow,hbel⟩:=hrel
  clear hr3 hb3 hz3
  have c0:=bor_le (ext fx lx) (ext fy ly) k
  have fk':=ext_lt HX.out.2.1.1 k
  have gk':=ext_lt HY.out.2.1.1 k
  have FK:=Lib.hid fk'
  have GK:=Lib.hid gk'
  have fk:=fk'
  have gk:=gk'
  rw [LB_eq] at fk gk
  clear fk' gk'
  by_cases hlt:k<lx
  ·rcases HX.out.2.2 with h0|⟨b1,o1,rfl,r1⟩
   ·omega
   have hcx:=(r1.below hbel (r1.lt (by omega))) k hlt
   rw [← ext_in (f:=fx) hlt] at hcx
   have hold:=hrow.cell (j:=k) (by omega)
   have hfr:=hrow.frozen k
   rw [ext_out (Nat.le_refl k)] at hold
   have HBS:=Lib.hid (bor_succ (ext fx lx) (ext fy ly) k)
   generalize hC:bor (ext fx lx) (ext fy ly) k=C at *
   generalize hF:ext fx lx k=F at *
   have HC:=Lib.hid hC
   have HF:=Lib.hid hF
   clear hC hF
   have c1:(C:Int)≤1:=by omega
   have f1:(F:Int)≤4294967295:=by omega
   generalize hG:ext fy ly k=G at *
   have HG:=Lib.hid hG
   clear hG
   have g1:(G:Int)≤4294967295:=by omega
   have HROW:=Lib.hid hrow
   by_cases hlt2:k<ly
   ·rcases HY.out.2.2 with h0|⟨b2,o2,rfl,r2⟩
    ·omega
    have hcy:=(r2.below hbel (r2.lt (by omega))) k hlt2
    rw [← ext_in (f:=fy) hlt2,HG.out] at hcy
    by_cases hlow:F<C+G
    ·as_aux_lemma =>
     clear hrow r1 r2
     go_wp2
     go_roundw
     case rel =>
      have hh:=minus_rel HF.out HG.out HC.out FK.out GK.out HROW.out hbel hlt ((F:Int)+4294967296 - (C+G)) (by rw [if_pos (by omega)];unfold LB;omega)
      exact ⟨k+1,by go_num,by omega,by rw [HBS.out,if_pos (by omega)];rfl,hh⟩
     case measure=>simp [intOf];omega
    ·as_aux_lemma =>
     clear hrow r1 r2
     go_wp2
     go_roundw
     case rel =>
      have hh:=minus_rel HF.out HG.out HC.out FK.out GK.out HROW.out hbel hlt ((F:Int) - (C+G)) (by rw [if_neg (by omega)];unfold LB;omega)
      exact ⟨k+1,by go_num,by omega,by rw [HBS.out,if_neg (by omega)];rfl,hh⟩
     case measure=>simp [intOf];omega
   ·have hG0:G=0:=by rw [← HG.out];exact ext_out (by omega)
    subst hG0
    have hnn:decide (k<ly)=false:=by simp;omega
    by_cases hlow:F<C
    ·as_aux_lemma =>
     clear hrow r1
     go_wp2
     go_roundw
     case rel =>
      have hh:=minus_rel HF.out HG.out HC.out FK.out GK.out HROW.out hbel hlt ((F:Int)+4294967296 - C) (by rw [if_pos (by omega)];unfold LB;omega)
      exact ⟨k+1,by go_num,by omega,by rw [HBS.out,if_pos (by omega)];rfl,hh⟩
     case measure=>simp [intOf];omega
    ·as_aux_lemma =>
     clear hrow r1
     go_wp2
     go_roundw
     case rel =>
      have hh:=minus_rel HF.out HG.out HC.out FK.out GK.out HROW.out hbel hlt ((F:Int) - C) (by rw [if_neg (by omega)];unfold LB;omega)
      exact ⟨k+1,by go_num,by omega,by rw [HBS.out,if_neg (by omega)];rfl,hh⟩
     case measure=>simp [intOf];omega
  ·obtain rfl:k=lx:=by omega
   have hs:=ddg_lv (f:=ext fx k) (g:=ext fy ly) (k:=k) (fun j _=>ext_lt HX.out.2.1.1 j) (fun j _=>ext_lt HY.out.2.1.1 j)
   have hlim : ∀ j,j<k→ext (ddg (ext fx k) (ext fy ly)) k j<LB:=fun j hj=>by
    rw [ext_in hj];exact (ddg_eq (ext_lt HX.out.2.1.1 j) (ext_lt HY.out.2.1.1 j)).2
   have hfin:lv (ext (ddg (ext fx k) (ext fy ly)) k) k=x - y:=by
    have hlt:=lv_lt hlim
    have e0:=lv_ext (f:=ddg (ext fx k) (ext fy ly)) (Nat.le_refl k)
    rw [e0] at hlt ⊢
    rw [lv_ext (f:=fx) (Nat.le_refl k),lv_ext hly,HX.out.1,HY.out.1] at hs
    rcases (show bor (ext fx k) (ext fy ly) k=0∨bor (ext fx k) (ext fy ly) k=1 by omega) with c|c
    ·rw [c] at hs;omega
    ·rw [c] at hs;omega
   have HF:=Lib.hid hfin
   have HL:=Lib.hid hlim
   have HR:=Lib.hid hrow
   clear hfin hlim hs hrow
   go_wp2_with fail
   refine (strip_row w w.heap.size k 179 _ _ (by omega) HR.out HL.out hbel).mono ?_
   rintro e w' ⟨a,len,cap,rfl,h1,h2,h3,h4⟩
   rw [HF.out] at h3
   go_wp2
   go_ret
   exact ⟨a,len,cap,rfl,h1,h2,h3,h4⟩
set_option maxRecDepth 100000 in
theorem times_any (ax ay:Option Addr) (lx ly cx cy x y:Nat) (w:World) (hX:Limbs w ax lx x) (hY:Limbs w ay ly y) (hll:lx≤1073741824) (hlm:ly≤1073741824) :
  Calls Tryz.prog 144 #[.slice ax lx cx,.slice ay ly cy] w (RetLimbs w (x*y)):=by
 obtain ⟨fx,hX⟩:=hX
 obtain ⟨fy,hY⟩:=hY
 have HX:Hid (LimbsF w ax lx x fx):=hX
 have HY:Hid (LimbsF w ay ly y fy):=hY
 clear hX hY
 obtain ⟨N,hN1,hN2⟩ : ∃ N,N≤lx+ly∧lx+ly≤N:=⟨_,Nat.le_refl _,Nat.le_refl _⟩
 go_enter Tryz.func144,Tryz.ntmps144
 go_wp2_with (refine wpList_makeT _ _ 176 179 .u32 4 N _ rfl rfl Tryz.underlying176 u32info rfl rfl (by omega) (by omega) (by omega) ?_;intro w3 hr3 hb3 hz3)
 go_loopw [6] (fun i wr=>∃ k:Nat,i = .int .i64 k∧k≤lx∧(∃ O,Row wr w.heap.size 179 .u32 N O∧lv O N=lv fx k*lv fy ly∧(∀ j,j<N→O j<LB)∧(∀ j,k+ly≤j→O j=0))∧Below w.heap.size w wr) (fun i _=>lx - (intOf i).toNat)
 case atStart=>exact ⟨0,rfl,by omega,⟨_,hr3,by rw [lv_zeros (fun _ _=>rfl),lv_zero,Nat.zero_mul],fun _ _=>LB_pos,fun _ _=>rfl⟩,hb3⟩
 case round =>
  obtain ⟨k,rfl,hk,⟨O,hrow,hO1,hO2,hO3⟩,hbel⟩:=hrel
  clear hr3 hb3 hz3
  by_cases hlt:k<lx
  ·rcases HX.out.2.2 with h0|⟨b1,o1,rfl,r1⟩
   ·omega
   have RX:=Lib.hid (r1 k hlt)
   have hb1:=r1.lt (by omega)
   have fk':=HX.out.2.1.1 k hlt
   have FK:=Lib.hid fk'
   have HROW:=Lib.hid hrow
   have HO1:=Lib.hid hO1
   have HO2:=Lib.hid hO2
   have HO3:=Lib.hid hO3
   clear fk' hrow hO1 hO2 hO3 r1
   obtain ⟨wo,hwo⟩ : ∃ wo,wo=wr:=⟨_,rfl⟩
   generalize hU:fx k=U at *
   have HU:=Lib.hid hU
   clear hU
   have U1:(U:Int)≤4294967295:=by have:=FK.out;unfold LB at this;omega
   subst hwo
   go_wp2
   go_loopw [7,8] (fun c i wi=>∃ m:Nat,i = .int .i64 m∧m≤ly∧(∃ C O',c = .int .u64 (C:Nat)∧MulRow O O' N k m C U fy∧Row wi w.heap.size 179 .u32 N O')∧Below w.heap.size w wi) (fun _ i _=>ly - (intOf i).toNat)
   case atStart=>exact ⟨0,rfl,by omega,⟨0,O,rfl,mul_start HO2.out,HROW.out⟩,hbel⟩
   case round =>
    obtain ⟨m,rfl,hm,⟨C,O',rfl,hmul,hrow⟩,hbel2⟩:=hrel
    have hC:=hmul.2.2.2
    have C1:(C:Int)≤4294967295:=by unfold LB at hC;omega
    by_cases hlt2:m<ly
    ·as_aux_lemma =>
     rcases HY.out.2.2 with h0|⟨b2,o2,rfl,r2⟩
     ·omega
     have hcy:=(r2.below hbel2 (r2.lt (by omega))) m hlt2
     have hcx:wr.cell? ⟨b1,o1+k,none⟩=some (.int .u32 (U:Int)):=by
      rw [hbel2.cell (p:=⟨b1,o1+k,none⟩) hb1];exact RX.out
     have hold:=hrow.cell (j:=k+m) (by omega)
     have hfr:=hrow.frozen (k+m)
     have gk:=HY.out.2.1.1 m hlt2
     have ok:=hmul.2.1 (k+m) (by omega)
     have hst:=mul_step hmul FK.out gk (by omega)
     have hcv:=mul_conv U (fy m) (O' (k+m)) C FK.out gk ok hC
     have HST:=Lib.hid hst
     have HROW2:=Lib.hid hrow
     obtain ⟨cv1,cv2,cv3,cv4,cv5⟩:=hcv
     have V1:(fy m:Int)≤4294967295:=by unfold LB at gk;omega
     have W1:(O' (k+m):Int)≤4294967295:=by unfold LB at ok;omega
     have CV4:=Lib.hid cv4
     have CV5:=Lib.hid cv5
     obtain ⟨P,hP⟩ : ∃ P:Nat,P=U*fy m:=⟨_,rfl⟩
     have p0:(U:Int)*(fy m:Int)=(P:Int):=by rw [hP,Int.natCast_mul]
     rw [p0] at cv1 cv2 cv3
     have p1:IntKind.u64.wrap ((U:Int)*(fy m:Int))=(P:Int):=by rw [p0];exact IntWalk.u64_in _ (by omega)
     have P0:=Lib.hid p0
     have p2:IntKind.i64.wrap ((k:Int)+m)=(k:Int)+m:=IntWalk.i64_in _ (by omega)
     have p3:((k:Int)+m).toNat=k+m:=by omega
     have p4:(k:Int)+m<N:=by omega
     have p5:IntKind.u64.wrap ((C:Int)+P)=(C:Int)+P:=IntWalk.u64_in _ (by omega)
     have p6:IntKind.u64.wrap ((C:Int)+P+(O' (k+m):Int))=(C:Int)+P+(O' (k+m):Int):=IntWalk.u64_in _ (by omega)
     clear hst hrow hmul r2 cv4 cv5 hC gk ok p0 hP
     go_wp2_with fail
     refine wp_region_quiet_lit (by kernel_rfl) (by kernel_rfl) ?_
     repeat (first|go_big_quiet_skip|(refine wpQuiet_step (fun K hK=>?_);go_simp;(try simp (disch:=omega) only [ar9]);(first|(refine hK _ ?_;clear hK K)|(simp (disch:=omega) only [if_pos,dif_pos,if_neg,dif_neg,ar9];go_simp;refine hK _ ?_;clear hK K))))
     refine wpQuiet_nil ?_
     intro _ hw9
     obtain ⟨nq,hw9⟩:=hw9
     subst hw9
     clear p1 p2 p3 p4 p5 p6
     go_wp2
     go_ways
     go_roundw
     case rel =>
      have e4:((C:Int)+P+(O' (k+m):Int))%4294967296=(((U*fy m+O' (k+m)+C)%LB:Nat):Int):=by
       rw [← CV4.out,P0.out];congr 1;omega
      have e5:((C:Int)+P+(O' (k+m):Int))/4294967296=(((U*fy m+O' (k+m)+C)/LB:Nat):Int):=by
       rw [← CV5.out,P0.out];congr 1;omega
      rw [e4,e5]
      exact ⟨m+1,by go_num,by omega,⟨_,_,rfl,HST.out,(HROW2.out.drewN _).set _ _⟩,(Below.drewN hbel2 _).setCell (Nat.le_refl _) _⟩
     case measure=>simp [intOf];omega
    ·as_aux_lemma =>
     obtain rfl:m=ly:=by omega
     have hold:=hrow.cell (j:=k+m) (by omega)
     have hfr:=hrow.frozen (k+m)
     have hen:=mul_end hmul (by omega) HO3.out HO1.out
     have HEN:=Lib.hid hen
     have HROW2:=Lib.hid hrow
     clear hmul hen hrow hC
     go_wp2
     go_roundw
     case rel =>
      refine ⟨k+1,by go_num,by omega,⟨_,HROW2.out.set (k+m) C,?_,HEN.out.2.1,fun j hj=>HEN.out.2.2 j (by omega)⟩,hbel2.setCell (Nat.le_refl _) _⟩
      rw [HEN.out.1,lv_succ,HU.out]
     case measure=>simp [intOf];omega
  ·as_aux_lemma =>
   obtain rfl:k=lx:=by omega
   obtain rfl:N=k+ly:=by omega
   rw [HX.out.1,HY.out.1] at hO1
   have HROW:=Lib.hid hrow
   have HO1:=Lib.hid hO1
   have HO2:=Lib.hid hO2
   clear hrow hO1 hO2 hO3
   go_wp2_with fail
   refine (strip_row w w.heap.size (k+ly) 179 O _ (by omega) HROW.out HO2.out hbel).mono ?_
   rintro e w' ⟨a,len,cap,rfl,h1,h2,h3,h4⟩
   rw [HO1.out] at h3
   go_wp2
   go_ret
   exact ⟨a,len,cap,rfl,h1,h2,h3,h4⟩
set_option maxRecDepth 100000 in
theorem short_walk (b1 o1 n c1 d:Nat) (f:Nat→Nat) (w:World) (hn:n≤1073741824) (hf:Reads w b1 o1 .u32 n f) (lf : ∀ j,j<n→f j<LB) (hd0:0<d) (hd:d<LB) (hn0:0<n) :
  Calls Tryz.prog 223 #[.slice (some ⟨b1,o1,none⟩) n c1,.int .u32 d] w (RetDiv1 w (lv f n) d):=by
 have D0:(0:Int)<(d:Int):=by omega
 have D1:(d:Int)≤4294967295:=by unfold LB at hd;omega
 go_enter Tryz.func223,Tryz.ntmps223
 go_wp2_with (refine wpList_makeT _ _ 176 179 .u32 4 n _ rfl rfl Tryz.underlying176 u32info rfl rfl (by omega) (by omega) (by omega) ?_;intro w3 hr3 hb3 hz3)
 go_loopw [7,8] (fun r i wr=>∃ (I:Int) (R:Nat),i = .int .i64 I∧-1≤I∧I<n∧r = .int .u64 (R:Int)∧(∃ O,Row wr w.heap.size 179 .u32 n O∧DivRow f O n (I+1).toNat d R)∧Below w.heap.size w wr) (fun _ i _=>(intOf i+1).toNat)
 case atStart=>exact ⟨_,0,rfl,by omega,by omega,rfl,⟨_,hr3,by rw [show ((n:Int) - 1+1).toNat=n by omega];exact div_start _ _ _ _ hd0⟩,hb3⟩
 case round =>
  obtain ⟨I,R,rfl,hI1,hI2,rfl,⟨O,hrow,hdiv⟩,hbel⟩:=hrel
  clear hr3 hb3 hz3
  have hR:=hdiv.2.1
  by_cases h0:I = -1
  ·subst h0
   obtain ⟨e1,e2,e3⟩:=div_end hdiv
   have E1:=Lib.hid e1
   have E2:=Lib.hid e2
   have E3:=Lib.hid e3
   have HROW:=Lib.hid hrow
   clear e1 e2 e3 hrow hdiv
   go_wp2_with fail
   refine (strip_row w w.heap.size n 179 _ _ (by omega) HROW.out E3.out hbel).mono ?_
   rintro e w' ⟨a,len,cap,rfl,h1,h2,h3,h4⟩
   rw [E1.out] at h3
   go_wp2
   go_ret2
   exact ⟨a,len,cap,by rw [← E2.out];rfl,h1,h2,h3,h4⟩
  ·obtain ⟨m,rfl⟩:=Int.eq_ofNat_of_zero_le (show 0≤I by omega)
   rw [show ((m:Int)+1).toNat=m+1 by omega] at hdiv
   have hm:m<n:=by omega
   have hcell:=(hf.below hbel (hf.lt hn0)) m hm
   have hold:=hrow.cell (j:=m) hm
   have hfr:=hrow.frozen m
   have hor:=or_u64 R (f m) (by omega) (lf m hm)
   have hst:=div_step hdiv hm (lf m hm)
   have HST:=Lib.hid hst
   have HROW:=Lib.hid hrow
   clear hst hrow hdiv
   have R0:(0:Int)≤(R:Int):=by omega
   have R1:(R:Int)≤4294967294:=by omega
   have FM:=lf m hm
   have F1:(f m:Int)≤4294967295:=by unfold LB at FM;omega
   go_wp2
   go_roundw
   case rel =>
    refine ⟨(m:Int) - 1,(R*LB+f m)%d,rfl,by omega,by omega,?_,⟨upd O m ((R*LB+f m)/d),?_,?_⟩,hbel.setCell (Nat.le_refl _) _⟩
    ·simp only [Int.natCast_emod,Int.natCast_add,Int.natCast_mul]
    ·rw [quo_conv R (f m) d hR FM]
     exact HROW.out.set m _
    ·rw [show ((m:Int) - 1+1).toNat=m by omega];exact HST.out
   case measure=>simp [intOf]
theorem lby_four (f:Nat→Nat) (i t:Nat) (ht:t<4):lby f (4*i+t)=f i/2 ^ (8*t)%256:=by
 unfold lby
 rw [show (4*i+t)/4=i by omega,show (4*i+t)%4=t by omega]
set_option maxRecDepth 100000 in
theorem rtext_walk (b off len cap:Nat) (f:Nat→Nat) (w:World) (hl:len≤268435456) (hcap:len≤cap) (hc:Reads w b off .u32 len f) (hf : ∀ j,j<len→f j<LB) (hb:0<len→b<w.heap.size) :
  Calls Tryz.prog 167 #[.slice (some ⟨b,off,none⟩) len cap] w fun e w'=>e = .returned (.string (bn (lv f len)))∧Below w.heap.size w w':=by
 have hn:=tlen_le f len
 have HV:=Lib.hid (tlen_lv f len)
 have HS:=Lib.hid (fun w' (h:w' = w)=>strip_walk b off len cap f (tlen f len) w' (by omega) hcap (by rw [h];exact hc) (tlen_le f len) (tlen_zero f len) (tlen_top f len))
 generalize tlen f len=n at *
 have HC:=Lib.hid hc
 have HF:=Lib.hid hf
 clear hc hf
 obtain ⟨i0,hi,hz0,hz1,hz2⟩:=info_parts u8info
 go_enter Tryz.func167,Tryz.ntmps167
 go_wp2_with fail
 refine (HS.out w rfl).mono ?_;rintro e w' ⟨rfl,rfl⟩
 go_wp2_with (refine wpList_make_own _ rfl _ _ 211 rfl w.heap.size 5 i0 (.int .u8 0) 1 Tryz.underlying211 hi hz0 hz1 .i64 .i64 _ (4*n) rfl rfl (by omega) (by rw [hz2];omega) (by unfold maxLen;omega) (Nat.le_refl _) ?_;intro w1 ho1 hg1)
 have hb1:Below w.heap.size w w1:=(Below.refl _ _).grown hg1 (Nat.le_refl _) (fun k h=>by cases h)
 have HO1:Hid (ORow w1 w.heap.size 5 .u8 (.slice (some ⟨w.heap.size,0,none⟩) 0 (4*n)) 0 (fun j=>lby f (4*n - 1 - j))):=ho1
 clear ho1 hg1
 go_loopw [3,4] (fun v i wr=>∃ I:Int,i = .int .i64 I∧-1≤I∧I<n∧ORow wr w.heap.size 5 .u8 v (4*(n - (I+1).toNat)) (fun j=>lby f (4*n - 1 - j))∧Below w.heap.size w wr) (fun _ i _=>(intOf i+1).toNat)
 case atStart =>
  refine ⟨_,rfl,by omega,by omega,?_,hb1⟩
  rw [show 4*(n - ((n:Int) - 1+1).toNat)=0 by omega]
  exact HO1.out
 case round =>
  obtain ⟨I,rfl,hI1,hI2,hown,hbel⟩:=hrel
  clear hb1 HO1
  have HO:=Lib.hid hown
  clear hown
  by_cases h0:I = -1
  ·as_aux_lemma =>
   subst h0
   have hcv:=fun wx (h:ORow wx w.heap.size 5 .u8 u3 (4*(n - ((-1:Int)+1).toNat)) (fun j=>lby f (4*n - 1 - j)))=>h.str (P:=Tryz.prog) (src:=211) (dst:=9) Tryz.underlying211 Tryz.underlying5 Tryz.underlying9
   have hcv2:=hcv _ HO.out
   have hnv:nv (⟨((List.range (4*(n - ((-1:Int)+1).toNat))).map fun j=>UInt8.ofNat (lby f (4*n - 1 - j))).toArray⟩:ByteArray)=lv f len:=by
    have h:=strF_nv (fun j=>lby f (4*n - 1 - j)) (4*n) (fun j _=>Nat.mod_lt _ (by omega))
    unfold strF at h
    rw [show 4*(n - ((-1:Int)+1).toNat)=4*n by omega,h,← HV.out,← bl_lby (fun j hj=>HF.out j (by omega))]
    apply bl_congr
    intro j hj
    congr 1;omega
   have hsz:(⟨((List.range (4*(n - ((-1:Int)+1).toNat))).map fun j=>UInt8.ofNat (lby f (4*n - 1 - j))).toArray⟩:ByteArray).size≤9223372036854775000:=by
    have h:(⟨((List.range (4*(n - ((-1:Int)+1).toNat))).map fun j=>UInt8.ofNat (lby f (4*n - 1 - j))).toArray⟩:ByteArray).size=4*(n - ((-1:Int)+1).toNat):=strF_size _ _
    omega
   generalize (⟨((List.range (4*(n - ((-1:Int)+1).toNat))).map fun j=>UInt8.ofNat (lby f (4*n - 1 - j))).toArray⟩:ByteArray)=t at *
   have HNV:=Lib.hid hnv
   clear hnv hcv HO
   go_wp2_with fail
   refine (rNormalize_any _ _ hsz).mono ?_;rintro e w' ⟨rfl,rfl⟩
   go_wp2
   go_ret
   exact ⟨ret_str (by rw [HNV.out]),hbel⟩
  ·as_aux_lemma =>
   obtain ⟨m,rfl⟩:=Int.eq_ofNat_of_zero_le (show 0≤I by omega)
   have hm:m<n:=by omega
   have hcell:=(HC.out.below hbel (hb (by omega))) m (by omega)
   have fm:=HF.out m (by omega)
   have f1:(f m:Int)≤4294967295:=by unfold LB at fm;omega
   have hsz:=hbel.size
   have hk:4*(n - ((m:Int)+1).toNat)=4*(n - 1 - m):=by omega
   have HO2:Hid (ORow wr w.heap.size 5 .u8 u3 (4*(n - 1 - m)) (fun j=>lby f (4*n - 1 - j))):=by
    have:=HO.out;rw [hk] at this;exact this
   clear HO hk
   go_wp2_with (at_builtin;refine wpList_append4 _ _ 211 5 .u8 1 w.heap.size _ _ _ (f m/16777216%256) (f m/65536%256) (f m/256%256) (f m%256) _ _ _ _ rfl rfl Tryz.underlying211 u8info rfl rfl (by omega) (by omega) (by omega) (by omega) HO2.out (by omega) (by omega) hsz ?_;intro v' w2 ho2 hb2)
   go_roundw
   case rel =>
    refine ⟨(m:Int) - 1,rfl,by omega,by omega,?_,hbel.trans hb2⟩
    have e:=ho2.congr (g:=fun j=>lby f (4*n - 1 - j)) (fun j hj=>by
     by_cases h4:j<4*(n - 1 - m)
     ·rw [if_pos h4]
     ·rw [if_neg h4]
      rcases (show j=4*(n - 1 - m)∨j=4*(n - 1 - m)+1∨j=4*(n - 1 - m)+2∨j=4*(n - 1 - m)+3 by omega) with h|h|h|h
      ·rw [h,show 4*n - 1 - 4*(n - 1 - m)=4*m+3 by omega,lby_four f m 3 (by omega)];simp
      ·rw [h,show 4*n - 1 - (4*(n - 1 - m)+1)=4*m+2 by omega,lby_four f m 2 (by omega),Nat.add_sub_cancel_left];simp
      ·rw [h,show 4*n - 1 - (4*(n - 1 - m)+2)=4*m+1 by omega,lby_four f m 1 (by omega),Nat.add_sub_cancel_left];simp
      ·rw [h,show 4*n - 1 - (4*(n - 1 - m)+3)=4*m+0 by omega,lby_four f m 0 (by omega),Nat.add_sub_cancel_left];simp)
    rw [show 4*(n - ((m:Int) - 1+1).toNat)=4*(n - 1 - m)+4 by omega]
    exact e
   case measure=>simp [intOf]
end Go.Proofs.Ins
