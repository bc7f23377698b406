/- The walk of bW.long: the reference's long division. -/
import Derived.Test.YtjonjhcaniinaaaGreatDoorZ6
set_option linter.unusedSimpArgs false
set_option linter.unusedVariables false
set_option maxHeartbeats 8000000
namespace Go.Proofs.Ins
open Go.RowKit
set_option maxRecDepth 200000 in
theorem X8 (ax ay:Option Addr) (lx ly cx cy x y:Nat) (w:World) (hX:Limbs w ax lx x) (hY:Limbs w ay ly y) (hle:y≤x) (h1:lx≤1073741824) (hly:2≤ly) :
  Calls Tryz.prog 195 #[.slice ax lx cx,.slice ay ly cy] w (vk w x y):=by
 have hll:ly≤lx:=by
  obtain ⟨fx,ex,kx,rx⟩:=hX
  obtain ⟨fy,ey,ky,ry⟩:=hY
  rcases Nat.lt_or_ge lx ly with h|h
  ·have:=kx.y9 ky h;omega
  ·exact h
 obtain ⟨fx,ex,kx,rx⟩:=hX
 obtain ⟨fy,ey,ky,ry⟩:=hY
 rcases rx with h0|⟨b1,o1,rfl,rx⟩
 ·omega
 rcases ry with h0|⟨b2,o2,rfl,ry⟩
 ·omega
 have hcell:=ry (ly - 1) (by omega)
 have htop:fy (ly - 1)≠0:=by rcases ky.2 with h|h;omega;exact h
 have htl:=ky.1 (ly - 1) (by omega)
 obtain ⟨s1,s2,s3⟩:=VN (by omega) htl
 have hsh : ∀ t,t<lz (fy (ly - 1))→fy (ly - 1)*2 ^ t<2147483648:=fun t ht=>by
  have h5:2*(fy (ly - 1)*2 ^ t)≤fy (ly - 1)*2 ^ lz (fy (ly - 1)):=by
   rw [Nat.mul_left_comm,← Nat.pow_succ']
   exact Nat.mul_le_mul_left _ (Nat.pow_le_pow_right (by omega) ht)
  unfold LB at s3;omega
 generalize hS:lz (fy (ly - 1))=s at *
 have RX:=Lib.hid rx
 have RY:=Lib.hid ry
 have KX:=Lib.hid kx
 have KY:=Lib.hid ky
 have EX:=Lib.hid ex
 have EY:=Lib.hid ey
 have S2:=Lib.hid s2
 have S3:=Lib.hid s3
 have SH:=Lib.hid hsh
 have TL:=Lib.hid htl
 clear rx ry kx ky ex ey hS s2 s3 hsh hle htop htl
 go_enter Tryz.func195,Tryz.ntmps195
 go_upto_block 0 with (fail)
 go_cut [7] (fun v wx=>v = .int .u64 (s:Int)∧w=wx)
 case first =>
  go_wp2_with fail
  go_loopw [7] (fun v wx=>∃ t:Nat,v = .int .u64 (t:Int)∧t≤s∧w=wx) (fun v _=>s - (intOf v).toNat)
  case atStart=>exact ⟨0,rfl,by omega,rfl⟩
  case round =>
   obtain ⟨t,rfl,ht,rfl⟩:=hrel
   generalize fy (ly - 1)=F at *
   have F1:(F:Int)≤4294967295:=by have:=TL.out;unfold LB at this;omega
   have hw2:(F:Int)*2 ^ t%4294967296=((F*2 ^ t:Nat):Int):=by
    have h5:F*2 ^ t<LB:=by
     rcases Nat.lt_or_ge t s with h|h
     ·have:=SH.out t h;unfold LB;omega
     ·obtain rfl:t=s:=by omega
      exact S3.out
    have h6:(F:Int)*2 ^ t=((F*2 ^ t:Nat):Int):=by rw [Int.natCast_mul,Int.natCast_pow];rfl
    rw [h6]
    generalize F*2 ^ t=z at *
    unfold LB at h5
    omega
   by_cases hts:t<s
   ·have h7:=SH.out t hts
    have h8:decide ((F:Int)*2 ^ t<2147483648)=true:=by
     have h6:(F:Int)*2 ^ t=((F*2 ^ t:Nat):Int):=by rw [Int.natCast_mul,Int.natCast_pow];rfl
     rw [h6];simp;omega
    clear h7
    go_wp2
    go_roundw
    case rel=>exact ⟨t+1,by go_num,by omega,trivial⟩
    case measure=>simp [intOf];omega
   ·obtain rfl:t=s:=by omega
    have h7:=S2.out
    have h8:decide ((F:Int)*2 ^ t<2147483648)=false:=by
     have h6:(F:Int)*2 ^ t=((F*2 ^ t:Nat):Int):=by rw [Int.natCast_mul,Int.natCast_pow];rfl
     rw [h6];unfold LB at h7;simp;omega
    clear h7
    go_wp2
    go_meet
    exact ⟨rfl,rfl⟩
 case rest =>
  obtain ⟨rfl,rfl⟩:=hcut
  have S3':=S3.out
  clear hcell SH
  go_wp2_with fail
  refine (Aq b1 o1 lx cx s fx _ h1 RX.out KX.out.1 s1 (by omega)).mono ?_
  rintro e w5 ⟨G,rfl,rG,eG,lG,hb5⟩
  have RY5:=Lib.hid (RY.out.below hb5 (RY.out.lt (by omega)))
  have RG:=Lib.hid rG
  have EG:=Lib.hid eG
  have LG:=Lib.hid lG
  have HB5:=Lib.hid hb5
  have z5:w.heap.size<w5.heap.size:=rG.lt
  clear rG eG lG hb5
  go_wp2_with fail
  refine (Aq b2 o2 ly cy s fy _ (by omega) RY5.out KY.out.1 s1 (by omega)).mono ?_
  rintro e w6 ⟨D,rfl,rD,eD,lD,hb6⟩
  have RG6:=Lib.hid (RG.out.below hb6 z5)
  have RD:=Lib.hid rD
  have ED:=Lib.hid eD
  have LD:=Lib.hid lD
  have MI:=Lib.hid (HB5.out.trans (hb6.mono HB5.out.size))
  have z6:w5.heap.size<w6.heap.size:=rD.lt
  clear rD eD lD hb6
  obtain ⟨q,hq1,hq2⟩ : ∃ q,q+ly≤lx+1∧lx+1≤q+ly:=⟨lx+1 - ly,by omega,by omega⟩
  go_wp2_with (refine cZ _ _ 135 138 .u32 4 q _ rfl rfl Tryz.underlying135 jP rfl rfl (by omega) (by omega) (by omega) ?_;intro w7 hr7 hb7 hz7)
  have hqe:q+ly=lx+1:=by omega
  have RG7:=Lib.hid (RG6.out.below hb7 (by omega))
  have RD7:=Lib.hid (RD.out.below hb7 z6)
  have HB7:=Lib.hid (MI.out.trans (hb7.mono MI.out.size))
  have hU:lv G (lx+1)=x*2 ^ s:=by rw [EG.out,EX.out]
  have hV1:lv D (ly+1)=y*2 ^ s:=by rw [ED.out,EY.out]
  have aaD:y*2 ^ s<LB ^ ly:=by
   rw [← EY.out]
   obtain ⟨k,rfl⟩ : ∃ k,ly=k+1:=⟨ly - 1,by omega⟩
   rw [Nat.add_sub_cancel] at S3'
   have h2:lv fy (k+1)<LB ^ k*(fy k+1):=by
    rw [bf,Nat.mul_succ]
    have:=tX (f:=fy) (n:=k) (fun j hj=>KY.out.1 j (by omega))
    omega
   have h3:LB ^ k*(fy k+1)*2 ^ s≤LB ^ k*LB:=by
    rw [Nat.mul_assoc]
    apply Nat.mul_le_mul_left
    -- (f + 1) * 2^s <= LB, for LB is a multiple of 2^s
    have e:=qG (s:=s) (by omega)
    rw [e] at S3' ⊢
    exact Nat.mul_le_mul_right _ (Nat.lt_of_mul_lt_mul_right S3')
   rw [Nat.pow_succ]
   exact Nat.lt_of_lt_of_le (Nat.mul_lt_mul_of_pos_right h2 (Nat.pow_pos (by omega))) h3
  have hDn:D ly=0:=by
   rw [bf] at hV1
   rcases Nat.eq_zero_or_pos (D ly) with e|e
   ·exact e
   ·have:LB ^ ly*1≤LB ^ ly*D ly:=Nat.mul_le_mul_left _ e
    omega
  have hV:lv D ly=y*2 ^ s:=by rw [bf,hDn,Nat.mul_zero,Nat.add_zero] at hV1;exact hV1
  have hV2:lv D ly=lv fy ly*2 ^ s:=by rw [hV,EY.out]
  have O5:0<y*2 ^ s:=by
   rw [← EY.out]
   have:=KY.out.ge (by omega)
   exact Nat.mul_pos (Nat.lt_of_lt_of_le (Nat.pow_pos gQ) this) (Nat.pow_pos (by omega))
  have hless:x*2 ^ s<LB ^ q*(y*2 ^ s):=by
   have:=J7 (s:=s) KX.out KY.out (by omega) hqe
   rw [EX.out,EY.out] at this;exact this
  have O6:=OW (by omega) hV2 (fun j hj=>LD.out j (by omega)) S2.out
  have HU:=Lib.hid hU
  have HV:=Lib.hid hV
  have HVP:=Lib.hid O5
  have HVL:=Lib.hid aaD
  have HLS:=Lib.hid hless
  have HNM:=Lib.hid O6
  have HQE:=Lib.hid hqe
  clear hU hV hV1 hV2 hDn O5 aaD hless O6 hqe RX RY RY5 RD RG RG6 HB5 MI hb7 S2 S3 S3' TL EG ED hz7
  generalize w5.heap.size=bd at *
  generalize w6.heap.size=bq at *
  go_loopw [11] (fun i wr=>∃ I:Int,i = .int .i64 I∧-1≤I∧I<q∧(∃ G' O,aaC w wr 138 w.heap.size bq bd (lx+1) q (ly+1) G' O D∧pO (lx+1) ly q (I+1).toNat (y*2 ^ s) (x*2 ^ s) G' O)) (fun i _=>(intOf i+1).toNat)
  case atStart =>
   refine ⟨_,rfl,by omega,by omega,G,_,⟨RG7.out,hr7,RD7.out,HB7.out⟩,?_⟩
   rw [show ((lx:Int) - ly+1).toNat=q by omega]
   exact Gn HU.out HQE.out HLS.out LG.out
  case round =>
   obtain ⟨I,rfl,hI1,hI2,G',O,hmem,hld⟩:=hrel
   obtain ⟨wo,rfl⟩ : ∃ wo:World,wo=wr:=⟨_,rfl⟩
   clear hr7 RG7 RD7 HB7
   have HM:=Lib.hid hmem
   have HL:=Lib.hid hld
   clear hmem hld
   by_cases h0:I = -1
   ·as_aux_lemma =>
    subst h0
    have hm0:((-1:Int)+1).toNat<q:=by omega
    have hzz:=HL.out.zero hm0
    rw [show ((-1:Int)+1).toNat+ly=ly by omega] at hzz
    obtain ⟨r1,r2,r3⟩:=OV HL.out rfl
    have hlG : ∀ j,j<ly+1→G' j<LB:=fun j hj=>HL.out.lG j (by omega)
    have R1:=Lib.hid r1
    have R2:=Lib.hid r2
    have R3:=Lib.hid r3
    have RZ:=Lib.hid hzz
    have RL:=Lib.hid hlG
    clear r1 r2 r3 hzz hlG
    go_wp2_with (refine cZ _ _ 135 138 .u32 4 ly _ rfl rfl Tryz.underlying135 jP rfl rfl (by omega) (by omega) (by omega) ?_;intro w8 hr8 hb8 hz8)
    go_loopw [25] (fun i wx=>∃ k:Nat,i = .int .i64 k∧k≤ly∧Row wx wo.heap.size 138 .u32 ly (ext (uo G' s) k)∧Below wo.heap.size wo wx) (fun i _=>ly - (intOf i).toNat)
    case atStart=>exact ⟨0,rfl,by omega,hr8.congr (fun j _=>by rw [iq (by omega)]),hb8⟩
    case round =>
     obtain ⟨k,rfl,hk,hrow,hbel⟩:=hrel
     clear hr8 hb8 hz8
     by_cases hlt:k<ly
     ·as_aux_lemma =>
      have c0:=(HM.out.1.below hbel HM.out.1.lt).cell (j:=k) (by omega)
      have c1:=(HM.out.1.below hbel HM.out.1.lt).cell (j:=k+1) (by omega)
      have hfr:=hrow.frozen k
      have hold:=hrow.cell hlt
      rw [iq (Nat.le_refl k)] at hold
      have l0:=RL.out k (by omega)
      have l1:=RL.out (k+1) (by omega)
      have hor:=zk (G' (k+1)) (G' k) l1 l0
      have hc:=CO G' s k _ hor
      rw [hor] at hc
      have HC:=Lib.hid hc
      have gV:=Lib.hid hrow
      obtain ⟨A,hA⟩ : ∃ A,A=G' k:=⟨_,rfl⟩
      obtain ⟨B,hB⟩ : ∃ B,B=G' (k+1):=⟨_,rfl⟩
      have HA:=Lib.hid hA
      have HB:=Lib.hid hB
      obtain ⟨P,hP⟩ : ∃ P,P=G' (k+1)*LB+G' k:=⟨_,rfl⟩
      have HP:=Lib.hid hP
      rw [← hP] at hor
      rw [← hA] at c0 l0 hor
      rw [← hB] at c1 l1 hor
      have b0:(A:Int)≤4294967295:=by unfold LB at l0;omega
      have b1' : (B:Int)≤4294967295:=by unfold LB at l1;omega
      have p1:IntKind.i64.wrap ((k:Int)+1)=(k:Int)+1:=IntWalk.i64_in _ (by omega)
      have p2:((k:Int)+1).toNat=k+1:=by omega
      have p3:(k:Int)+1<((lx+1:Nat):Int):=by omega
      have p4:(k:Int)<((lx+1:Nat):Int):=by omega
      have p5:(k:Int)<(ly:Int):=by omega
      clear hc hrow hA hB hP
      go_wp2_with fail
      refine wp_region_still_tail 19 (by kernel_rfl) (by kernel_rfl) ?_
      simp only [List.take_succ_cons,List.take_zero,List.drop_succ_cons,List.drop_zero]
      repeat (refine wpStill_step (fun K hK=>?_);go_simp;(try simp (disch:=omega) only [uP]);(first|(refine hK _ ?_;clear hK K)|(simp (disch:=omega) only [if_pos,dif_pos,if_neg,dif_neg,uP];go_simp;refine hK _ ?_;clear hK K)))
      refine wpStill_nil ?_
      change wpList _ _ _ _ _ (World.drew _)
      clear p1 p2 p3 p4
      go_wp2
      go_roundw
      case rel =>
       refine ⟨k+1,by go_num,by omega,?_,(hbel.drew.setCell (Nat.le_refl _) _)⟩
       have e:((P:Int)/2 ^ s%4294967296)=((uo G' s k:Nat):Int):=by rw [HP.out];exact HC.out
       rw [e]
       exact (gV.out.drew.set k _).congr fun j _=>Ai _ k _ rfl j
      case measure=>simp [intOf];omega
     ·as_aux_lemma =>
      obtain rfl:k=ly:=by omega
      have hfin:lv (ext (uo G' s) k) k=x%y:=by
       rw [oH (Nat.le_refl _)]
       exact VJ s1 (fun j hj=>RL.out j (by omega)) RZ.out R2.out
      have aif:=Lib.hid hfin
      have gV:=Lib.hid hrow
      have RQ:=Lib.hid (HM.out.2.1.below hbel HM.out.2.1.lt)
      have HBB:=Lib.hid (HM.out.2.2.2.trans (hbel.mono HM.out.2.2.2.size))
      clear hfin hrow hbel
      go_wp2_with fail
      refine (vC bq 0 q q O (tY O q) _ (by omega) (Nat.le_refl _) RQ.out.reads (gI O q) (mX O q) (qF O q)).mono ?_
      rintro e w9 ⟨rfl,rfl⟩
      have t1:=gI O q
      go_wp2_with fail
      refine (vC wo.heap.size 0 k k (ext (uo G' s) k) (tY (ext (uo G' s) k) k) _ (by omega) (Nat.le_refl _) gV.out.reads (gI _ k) (mX _ k) (qF _ k)).mono ?_
      rintro e w9 ⟨rfl,rfl⟩
      go_wp2
      go_ret2
      refine ⟨_,_,_,_,_,_,rfl,gI O q,by omega,gI _ k,by omega,⟨O,by rw [yj];exact R1.out,wK R3.out,.inr ⟨bq,0,rfl,fun j hj=>RQ.out.reads j (Nat.lt_of_lt_of_le hj (gI O q))⟩⟩,⟨_,by rw [yj];exact aif.out,wK (fun j _=>jw (fun j _=>VP _ _ _) j),.inr ⟨_,0,rfl,fun j hj=>gV.out.reads j (Nat.lt_of_lt_of_le hj (gI _ k))⟩⟩,HBB.out⟩
   ·as_aux_lemma =>
    obtain ⟨m,rfl⟩:=Int.eq_ofNat_of_zero_le (show 0≤I by omega)
    have hm:m<q:=by omega
    have HL2:Hid (pO (lx+1) ly q (m+1) (y*2 ^ s) (x*2 ^ s) G' O):=HL.out
    clear HL
    have hpre:Ak ly m (lx+1) G' D:=⟨hly,by omega,by omega,HL2.out.lG,fun j hj=>LD.out j (by omega),HNM.out,by rw [HV.out];exact wO HL2.out (by omega)⟩
    have ht:=hpre.alC
    have cu0:=HM.out.1.cell (j:=m+ly) (by omega)
    have cu1:=HM.out.1.cell (j:=m+(ly - 1)) (by omega)
    have cu2:=HM.out.1.cell (j:=m+(ly - 2)) (by omega)
    have cd1:=HM.out.2.2.1.cell (j:=ly - 1) (by omega)
    have cd2:=HM.out.2.2.1.cell (j:=ly - 2) (by omega)
    have lu0:=hpre.lG (m+ly) (by omega)
    have lu1:=hpre.lG (m+(ly - 1)) (by omega)
    have lu2:=hpre.lG (m+(ly - 2)) (by omega)
    have ld1:=hpre.lD (ly - 1) (by omega)
    have ld2:=hpre.lD (ly - 2) (by omega)
    have X5:=Lib.hid hpre
    clear hpre
    generalize G' (m+ly)=u0 at *
    generalize G' (m+(ly - 1))=u1 at *
    generalize G' (m+(ly - 2))=u2 at *
    generalize D (ly - 1)=d1 at *
    generalize D (ly - 2)=d2 at *
    obtain ⟨top,htop⟩ : ∃ top,top=u0*LB+u1:=⟨_,rfl⟩
    have hor:=zk u0 u1 lu0 lu1
    rw [← htop] at hor ht
    clear htop
    have hst:=ht.start
    have hd1:=ht.d_pos
    have hg1:=ht.small hst
    have hr1:top%d1<d1:=Nat.mod_lt _ hd1
    have t1:(top:Int).tdiv d1=((top/d1:Nat):Int):=by rw [Int.tdiv_eq_ediv_of_nonneg (by omega),Int.natCast_ediv]
    have t2:(top:Int).tmod d1=((top%d1:Nat):Int):=by rw [Int.tmod_eq_emod_of_nonneg (by omega),Int.natCast_emod]
    generalize top/d1=g0 at *
    generalize top%d1=r0 at *
    have HT:=Lib.hid ht
    have HST:=Lib.hid hst
    clear ht hst
    have bb0:(u0:Int)≤4294967295:=by unfold LB at lu0;omega
    have bb1:(u1:Int)≤4294967295:=by unfold LB at lu1;omega
    have bb3:(d1:Int)≤4294967295:=by unfold LB at ld1;omega
    have bb4:(0:Int)<(d1:Int):=by omega
    have jq:(d2:Int)≤4294967295:=by unfold LB at ld2;omega
    have bb6:(u2:Int)≤4294967295:=by unfold LB at lu2;omega
    have bb7:(g0:Int)≤4294967297:=by unfold LB at hg1;omega
    have bb8:(r0:Int)≤4294967294:=by omega
    have q1:IntKind.i64.wrap ((ly:Int) - 1)=(ly:Int) - 1:=IntWalk.i64_in _ (by omega)
    have q2:((ly:Int) - 1).toNat=ly - 1:=by omega
    have q3:(1:Int)≤ly:=by omega
    have q5 : ¬ d1=0:=by omega
    have q6:IntKind.u64.wrap (g0:Int)=g0:=IntWalk.u64_in _ (by omega)
    have q7:IntKind.u64.wrap (r0:Int)=r0:=IntWalk.u64_in _ (by omega)
    have p1:IntKind.i64.wrap ((m:Int)+ly)=(m:Int)+ly:=IntWalk.i64_in _ (by omega)
    have p2:((m:Int)+ly).toNat=m+ly:=by omega
    have p3:(m:Int)+ly<((lx+1:Nat):Int):=by omega
    have p4:IntKind.i64.wrap ((m:Int)+ly - 1)=(m:Int)+ly - 1:=IntWalk.i64_in _ (by omega)
    have p5:((m:Int)+ly - 1).toNat=m+(ly - 1):=by omega
    have p6:(1:Int)≤(m:Int)+ly:=by omega
    go_wp2_with fail
    refine wp_region_quiet_lit (by kernel_rfl) (by kernel_rfl) ?_
    repeat (first|go_big_quiet_skip|(refine wpQuiet_step (fun K hK=>?_);go_simp;(try simp (disch:=omega) only [uP]);(first|(refine hK _ ?_;clear hK K)|(simp (disch:=omega) only [if_pos,dif_pos,if_neg,dif_neg,uP];go_simp;refine hK _ ?_;clear hK K))))
    refine wpQuiet_nil ?_
    intro _ uZ
    obtain ⟨nq,uZ⟩:=uZ
    subst uZ
    have q8:IntKind.i64.wrap ((ly:Int) - 2)=(ly:Int) - 2:=IntWalk.i64_in _ (by omega)
    have q9:((ly:Int) - 2).toNat=ly - 2:=by omega
    have q10:(2:Int)≤ly:=by omega
    have p7:IntKind.i64.wrap ((m:Int)+ly - 2)=(m:Int)+ly - 2:=IntWalk.i64_in _ (by omega)
    have p8:((m:Int)+ly - 2).toNat=m+(ly - 2):=by omega
    have p9:(2:Int)≤(m:Int)+ly:=by omega
    have p10:IntKind.i64.wrap ((m:Int)+ly)=(m:Int)+ly:=IntWalk.i64_in _ (by omega)
    go_upto_block 4 with (fail)
    go_cut [13,14] (fun g _ wx=>∃ gg:Nat,g = .int .u64 gg∧Hid (gg<LB∧gg≤wv G' m (ly+1)/lv D ly+1∧wv G' m (ly+1)/lv D ly≤gg)∧∃ q,wx=wo.drewN q)
    case first =>
     go_wp2_with fail
     go_loopw [13,14] (fun g r wx=>∃ gg rr:Nat,g = .int .u64 gg∧r = .int .u64 rr∧Hid (F9 (wv G' m (ly+1)) (lv D ly) top u2 d1 d2 (LB ^ (ly - 2)) gg rr)∧rr<LB∧∃ q,wx=wo.drewN q) (fun g _ _=>(intOf g).toNat)
     case atStart=>exact ⟨g0,r0,rfl,rfl,HST.out,by omega,_,(by first|rfl|exact iO _ _ _)⟩
     case round =>
      obtain ⟨g,r,rfl,rfl,hgs,hr,q,rfl⟩:=hrel
      clear hor t1 t2 q6 q7 bb7 bb8 hg1 hr1 p1 p2 p3 p4 p5 p6
      have hgl:=HT.out.small hgs.out
      have c1:(g:Int)≤4294967297:=by unfold LB at hgl;omega
      have c2:(r:Int)≤4294967295:=by unfold LB at hr;omega
      by_cases hA:LB≤g
      ·as_aux_lemma =>
       have hlow:=HT.out.lower hgs.out (.inl hA)
       have hA' : (4294967296:Int)≤g:=by unfold LB at hA;omega
       have HL:=Lib.hid hlow.2
       have hg0:(1:Int)≤g:=by omega
       clear hlow hA
       go_wp2_with fail
       refine wp_region_quiet_lit (by kernel_rfl) (by kernel_rfl) ?_
       repeat (first|go_big_quiet_skip|(refine wpQuiet_step (fun K hK=>?_);go_simp;(try simp (disch:=omega) only [uP]);(first|(refine hK _ ?_;clear hK K)|(simp (disch:=omega) only [if_pos,dif_pos,if_neg,dif_neg,uP];go_simp;refine hK _ ?_;clear hK K))))
       refine wpQuiet_nil ?_
       intro _ uZ
       obtain ⟨nq,uZ⟩:=uZ
       subst uZ
       by_cases hbr:LB≤r+d1
       ·have Td : (4294967296:Int)≤(r:Int)+d1:=by unfold LB at hbr;omega
        have hdn:=HT.out.done HL.out (.inr hbr)
        have OY:=Lib.hid hdn
        clear hdn hbr
        go_wp2_with fail
        go_meet
        exact ⟨g - 1,by go_num,⟨OY.out.1,OY.out.2,HL.out.ge⟩,_,(by first|rfl|exact iO _ _ _)⟩
       ·have Td : decide ((4294967296:Int)≤(r:Int)+d1)=false:=by unfold LB at hbr;simp;omega
        have hlt:r+d1<LB:=by omega
        clear hbr
        go_wp2_with fail
        go_roundw
        case rel=>exact ⟨g - 1,r+d1,by go_num,by go_num,HL.out,hlt,_,(by first|rfl|exact iO _ _ _)⟩
        case measure=>simp [intOf];omega
      ·have hA' : decide ((4294967296:Int)≤(g:Int))=false:=by unfold LB at hA;simp;omega
       have hgm:(g:Int)≤4294967295:=by unfold LB at hA;omega
       obtain ⟨P,hP⟩ : ∃ P,P=g*d2:=⟨_,rfl⟩
       obtain ⟨Q,hQ⟩ : ∃ Q,Q=r*LB+u2:=⟨_,rfl⟩
       have hPl:P≤4294967295*4294967295:=by rw [hP];exact Nat.mul_le_mul (by omega) (by omega)
       have p1:IntKind.u64.wrap ((g:Int)*(d2:Int))=(P:Int):=by
        rw [← Int.natCast_mul,← hP];exact IntWalk.u64_in _ (by omega)
       have p2:=zk r u2 hr lu2
       rw [← hQ] at p2
       by_cases hB:Q<P
       ·as_aux_lemma =>
        have hlow:=HT.out.lower hgs.out (.inr (by rw [← hP,← hQ];exact hB))
        have hB' : (Q:Int)<P:=by omega
        have HL:=Lib.hid hlow.2
        have hg0:(1:Int)≤g:=by have:=hlow.1;omega
        clear hlow hA hB hP hQ hPl
        go_wp2_with fail
        refine wp_region_quiet_lit (by kernel_rfl) (by kernel_rfl) ?_
        repeat (first|go_big_quiet_skip|(refine wpQuiet_step (fun K hK=>?_);go_simp;(try simp (disch:=omega) only [uP]);(first|(refine hK _ ?_;clear hK K)|(simp (disch:=omega) only [if_pos,dif_pos,if_neg,dif_neg,uP];go_simp;refine hK _ ?_;clear hK K))))
        refine wpQuiet_nil ?_
        intro _ uZ
        obtain ⟨nq,uZ⟩:=uZ
        subst uZ
        by_cases hbr:LB≤r+d1
        ·have Td : (4294967296:Int)≤(r:Int)+d1:=by unfold LB at hbr;omega
         have hdn:=HT.out.done HL.out (.inr hbr)
         have OY:=Lib.hid hdn
         clear hdn hbr
         go_wp2_with fail
         go_meet
         exact ⟨g - 1,by go_num,⟨OY.out.1,OY.out.2,HL.out.ge⟩,_,(by first|rfl|exact iO _ _ _)⟩
        ·have Td : decide ((4294967296:Int)≤(r:Int)+d1)=false:=by unfold LB at hbr;simp;omega
         have hlt:r+d1<LB:=by omega
         clear hbr
         go_wp2_with fail
         go_roundw
         case rel=>exact ⟨g - 1,r+d1,by go_num,by go_num,HL.out,hlt,_,(by first|rfl|exact iO _ _ _)⟩
         case measure=>simp [intOf];omega
       ·as_aux_lemma =>
        have hB' : decide (Q<P)=false:=by simp;omega
        have hdn:=HT.out.done hgs.out (.inl ⟨by omega,by rw [← hP,← hQ];omega⟩)
        have OY:=Lib.hid hdn
        clear hdn hA hB hP hQ hPl
        go_wp2_with fail
        refine wp_region_quiet_lit (by kernel_rfl) (by kernel_rfl) ?_
        repeat (first|go_big_quiet_skip|(refine wpQuiet_step (fun K hK=>?_);go_simp;(try simp (disch:=omega) only [uP]);(first|(refine hK _ ?_;clear hK K)|(simp (disch:=omega) only [if_pos,dif_pos,if_neg,dif_neg,uP];go_simp;refine hK _ ?_;clear hK K))))
        refine wpQuiet_nil ?_
        intro _ uZ
        obtain ⟨nq,uZ⟩:=uZ
        subst uZ
        go_wp2_with fail
        go_meet
        exact ⟨g,rfl,⟨OY.out.1,OY.out.2,hgs.out.ge⟩,_,(by first|rfl|exact iO _ _ _)⟩
    case rest =>
     obtain ⟨g,rfl,hg,q',rfl⟩:=hcut
     clear hor t1 t2 q6 q7 bb7 bb8 hg1 hr1 HST cu0 cu1 cu2 cd1 cd2 q1 q2 q3 q5 q8 q9 q10 p1 p2 p3 p4 p5 p6 p7 p8 p9 p10
     have hgl:=hg.out.1
     go_wp2_with fail
     go_loopw [15,16,17] (fun c b i wx=>∃ k C B:Nat,i = .int .i64 k∧k≤ly∧c = .int .u64 (C:Int)∧b = .int .u64 (B:Int)∧(∃ G2,Cm (lx+1) m g k C B D G' G2∧Row wx w.heap.size 138 .u32 (lx+1) G2)∧Touch w.heap.size wo wx) (fun _ _ i _=>ly - (intOf i).toNat)
     case atStart=>exact ⟨0,0,0,rfl,by omega,rfl,rfl,⟨G',Gf X5.out.lG,HM.out.1.drewN q'⟩,(Touch.refl _ _).drewN q'⟩
     case round =>
      obtain ⟨k,C,B,rfl,hk,rfl,rfl,⟨G2,hms,hrow⟩,vg⟩:=hrel
      have hC:=hms.aib
      have hB:=hms.alA
      by_cases hlt:k<ly
      ·have hcd:=(HM.out.2.2.1.reads.touch vg (by omega)) k (by omega)
       rw [Nat.zero_add] at hcd
       have hcu:=hrow.cell (j:=m+k) (by omega)
       have hfr:=hrow.frozen (m+k)
       have dk:=X5.out.lD k hlt
       have xk:=hms.lt (m+k) (by omega)
       obtain ⟨v1,v2,v3,v4,v5,v6,v7⟩:=VQ g (D k) C hgl dk hC
       have hbd:=pK xk v6 hB
       have x1:(G2 (m+k):Int)≤4294967295:=by unfold LB at xk;omega
       have x2:(B:Int)≤1:=by omega
       have x3:(D k:Int)≤4294967295:=by unfold LB at dk;omega
       have x4:(C:Int)≤4294967295:=by unfold LB at hC;omega
       have x5:(g:Int)≤4294967295:=by unfold LB at hgl;omega
       have hst:=fun dg (h1:dg+(g*D k+C)%LB+B=G2 (m+k)+LB*(if G2 (m+k)<(g*D k+C)%LB+B then 1 else 0)) (h2:dg<LB)=>J6 (dk:=dg) hms hgl dk (by omega) rfl h1 h2
       have hand:bits BinOp.and .u64 ((C:Int)+(g:Int)*(D k:Int)) 4294967295=(((g*D k+C)%LB:Nat):Int):=by
        rw [Int.add_comm,← v4]
        exact bits_mask .u64 64 (by decide) (fun n h0 h1=>IntWalk.u64_in n (by omega)) 32 (by decide) _ (by omega) (by omega)
       have hdiv:((C:Int)+(g:Int)*(D k:Int))/4294967296=(((g*D k+C)/LB:Nat):Int):=by
        rw [Int.add_comm,← v5]
       generalize hY:(g*D k+C)%LB=Y at *
       generalize hZ:(g*D k+C)/LB=Z at *
       have y1:(Y:Int)≤4294967295:=by unfold LB at v6;omega
       have gV:=Lib.hid hrow
       have HST:=Lib.hid hst
       have HBD:=Lib.hid hbd
       clear hst hbd hrow hms v4 v5 hY hZ
       -- <<A
       by_cases hlow:G2 (m+k)<Y+B
       ·as_aux_lemma =>
        have h7:=HBD.out
        rw [if_pos hlow,Nat.mul_one] at h7
        have h8:=HST.out _ (by rw [if_pos hlow,Nat.mul_one];exact h7.2.2) h7.2.1
        rw [if_pos hlow] at h8
        have H8:=Lib.hid h8
        have hdg:(G2 (m+k):Int)+4294967296 - ((Y:Int)+B)=((G2 (m+k)+LB - Y - B:Nat):Int):=by unfold LB;omega
        have HDG:=Lib.hid hdg
        clear h7 h8 HBD HST hdg
        go_wp2
        go_roundw
        case rel =>
         refine ⟨k+1,Z,1,by go_num,by omega,rfl,rfl,⟨_,H8.out,?_⟩,vg.setCell rfl _⟩
         rw [HDG.out]
         exact gV.out.set _ _
        case measure=>simp [intOf];omega
       ·as_aux_lemma =>
        have h7:=HBD.out
        rw [if_neg hlow,Nat.mul_zero,Nat.add_zero] at h7
        have h8:=HST.out _ (by rw [if_neg hlow,Nat.mul_zero,Nat.add_zero];exact h7.2.2) h7.2.1
        rw [if_neg hlow] at h8
        have H8:=Lib.hid h8
        have hdg:(G2 (m+k):Int) - ((Y:Int)+B)=((G2 (m+k) - Y - B:Nat):Int):=by omega
        have HDG:=Lib.hid hdg
        have hnl:decide ((G2 (m+k):Int)<(Y:Int)+B)=false:=by simp;omega
        have an3:(Y:Int)+B≤(G2 (m+k):Int):=by omega
        clear h7 h8 HBD HST hdg
        go_wp2
        go_roundw
        case rel =>
         refine ⟨k+1,Z,0,by go_num,by omega,rfl,rfl,⟨_,H8.out,?_⟩,vg.setCell rfl _⟩
         rw [HDG.out]
         exact gV.out.set _ _
        case measure=>simp [intOf];omega
       -- >>A
      ·obtain rfl:k=ly:=by omega
       have hcu:=hrow.cell (j:=m+k) (by omega)
       have hfr:=hrow.frozen (m+k)
       have xk:=hms.lt (m+k) (by omega)
       have x1:(G2 (m+k):Int)≤4294967295:=by unfold LB at xk;omega
       have x2:(B:Int)≤1:=by omega
       have x4:(C:Int)≤4294967295:=by unfold LB at hC;omega
       have x5:(g:Int)≤4294967295:=by unfold LB at hgl;omega
       have hVP:=HT.out.VK
       have aaG:=Lib.hid hVP
       clear hVP
       have hbd:=pK xk hC hB
       by_cases hbb:G2 (m+k)<C+B
       ·rw [if_pos hbb,Nat.mul_one] at hbd
        obtain ⟨dk,hdk⟩ : ∃ dk,dk=G2 (m+k)+LB - C - B:=⟨_,rfl⟩
        rw [← hdk] at hbd
        have hst:=yt (dk:=dk) hms (by omega) rfl (by rw [if_pos hbb,Nat.mul_one];exact hbd.2.2) hbd.2.1
        rw [if_pos hbb,Nat.mul_one] at hst
        have hq:=Gh hg.out.2.1 aaG.out hst.1 (VL hst.2.2 (by omega))
        have HST:=Lib.hid hst
        have hbd1:=Lib.hid hbd.1
        have HQ:=Lib.hid hq
        have hrow2:=hrow.set (m+k) dk
        have gV:=Lib.hid hrow2
        have hlow:(G2 (m+k):Int)<(C:Int)+B:=by omega
        clear hst hbd hq hdk hbb hms hrow2 hrow
        have hn1:bq≠w.heap.size:=by omega
        have hn2:bd≠w.heap.size:=by omega
        have hn3:bd≠bq:=by omega
        have hn4:w.heap.size≤bq:=by omega
        have HDG:Hid (IntKind.u64.wrap ((G2 (m+k):Int) - ((C:Int)+B))%4294967296=(dk:Int)):=by
         have h:=hbd1.out
         show _=_
         rw [← h]
         simp only [IntKind.wrap,IntKind.bits,IntKind.signed]
         simp
         omega
        as_aux_lemma =>
         have hg1:(1:Int)≤g:=by have h:=HQ.out.1;generalize wv G' m (k+1)/lv D k=z at h;omega
         have hR:wv G' m (k+1)%lv D k<LB ^ (k+1):=by
          have h1:=Nat.mod_lt (wv G' m (k+1)) aaG.out
          have h2:=tX (f:=D) (n:=k) X5.out.lD
          have h3:LB ^ k≤LB ^ (k+1):=Nat.pow_le_pow_right gQ (by omega)
          omega
         have HR:=Lib.hid hR
         have hdg:=HDG.out
         clear hR
         go_wp2_with fail
         clear hdg hcu hfr hlow
         go_loopw [15,23] (fun c i wy=>∃ t C3:Nat,i = .int .i64 t∧t≤k∧c = .int .u64 (C3:Int)∧(∃ G3,yu (lx+1) m t C3 D (upd G2 (m+k) dk) G3∧Row wy w.heap.size 138 .u32 (lx+1) G3)∧Touch w.heap.size wo wy) (fun _ i _=>k - (intOf i).toNat)
         case atStart=>exact ⟨0,0,rfl,by omega,rfl,⟨_,DW HST.out.2.2,gV.out⟩,vg.setCell rfl _⟩
         case round =>
          obtain ⟨t,C3,rfl,ht,rfl,⟨G3,hab,hrow3⟩,wP⟩:=hrel
          have hc3:=hab.aic
          have z2:(C3:Int)≤1:=by omega
          by_cases hlt3:t<k
          ·as_aux_lemma =>
           -- <<B
           have hcd:=(HM.out.2.2.1.reads.touch wP (by omega)) t (by omega)
           rw [Nat.zero_add] at hcd
           have hcu:=hrow3.cell (j:=m+t) (by omega)
           have hfr:=hrow3.frozen (m+t)
           have dt:=X5.out.lD t hlt3
           have xt:=hab.lt (m+t) (by omega)
           have hst:=Gi hab dt (by omega) rfl
           have Tf:=Lib.hid hst
           have OZ:=Lib.hid hrow3
           have z1:(G3 (m+t):Int)≤4294967295:=by unfold LB at xt;omega
           have z3:(D t:Int)≤4294967295:=by unfold LB at dt;omega
           have e1:((C3:Int)+(G3 (m+t):Int)+(D t:Int))%4294967296=(((G3 (m+t)+D t+C3)%LB:Nat):Int):=by rw [qC];omega
           have e2:((C3:Int)+(G3 (m+t):Int)+(D t:Int))/4294967296=(((G3 (m+t)+D t+C3)/LB:Nat):Int):=by rw [qC];omega
           have E1:=Lib.hid e1
           have E2:=Lib.hid e2
           have p1:IntKind.i64.wrap ((m:Int)+t)=(m:Int)+t:=IntWalk.i64_in _ (by omega)
           have p2:((m:Int)+t).toNat=m+t:=by omega
           have p3:(m:Int)+t<((lx+1:Nat):Int):=by omega
           have p4:(t:Int)<k:=by omega
           clear hst hrow3 hab e1 e2
           go_wp2_with fail
           refine wp_region_quiet_lit (by kernel_rfl) (by kernel_rfl) ?_
           repeat (first|go_big_quiet_skip|(refine wpQuiet_step (fun K hK=>?_);go_simp;(try simp (disch:=omega) only [uP]);(first|(refine hK _ ?_;clear hK K)|(simp (disch:=omega) only [if_pos,dif_pos,if_neg,dif_neg,uP];go_simp;refine hK _ ?_;clear hK K))))
           refine wpQuiet_nil ?_
           intro _ uZ
           obtain ⟨nq,uZ⟩:=uZ
           subst uZ
           clear p1 p2 p3
           go_wp2
           go_roundw
           case rel =>
            rw [E2.out]
            refine ⟨t+1,_,by go_num,by omega,rfl,⟨_,Tf.out,?_⟩,(wP.drewN _).setCell rfl _⟩
            rw [E1.out]
            exact (OZ.out.drewN _).set _ _
           case measure=>simp [intOf];omega
           -- >>B
          ·as_aux_lemma =>
           obtain rfl:t=k:=by omega
           have hcu:=hrow3.cell (j:=m+t) (by omega)
           have hfr:=hrow3.frozen (m+t)
           have xt:=hab.lt (m+t) (by omega)
           have hst:=Gj hab (by omega) rfl HQ.out.2 HR.out
           have J8 : ∀ j,(j<m∨m+t+1≤j)→upd G3 (m+t) ((G3 (m+t)+C3)%LB) j=G' j:=fun j hj=>(hst.2.1 j hj).trans (HST.out.2.1 j hj)
           have hld:=CB HL2.out hm (by rw [← HV.out];exact aaG.out) HVL.out (by omega) (by rw [← HV.out];exact hst.1) J8 hst.2.2
           have HLD:=Lib.hid hld
           have hrow4:=hrow3.set (m+t) ((G3 (m+t)+C3)%LB)
           have alE:=Lib.hid hrow4
           have z1:(G3 (m+t):Int)≤4294967295:=by unfold LB at xt;omega
           have e1:((G3 (m+t):Int)+C3)%4294967296=(((G3 (m+t)+C3)%LB:Nat):Int):=by rw [qC];omega
           have E1:=Lib.hid e1
           have hrq:=(HM.out.2.1.touch wP hn1).cell (j:=m) hm
           have hfq:=(HM.out.2.1.touch wP hn1).frozen m
           have RQ:=Lib.hid (HM.out.2.1.touch wP hn1)
           have RDD:=Lib.hid (HM.out.2.2.1.touch wP hn2)
           have HBB:=Lib.hid (Touch.below HM.out.2.2.2 wP (Nat.le_refl _))
           have hgq:(g:Int) - 1=((wv G' m (t+1)/(y*2 ^ s):Nat):Int):=by
            have h:=HQ.out.1
            rw [HV.out] at h
            generalize wv G' m (t+1)/(y*2 ^ s)=z at *
            omega
           have HGQ:=Lib.hid hgq
           clear hst hld hrow4 hrow3 hab e1 hgq J8
           go_wp2
           go_roundw
           case rel =>
            rw [E1.out,HGQ.out]
            generalize hdg:(G3 (m+t)+C3)%LB=dg at *
            have e1:=alE.out.setOther ⟨bq,m,none⟩ (.int .u32 ((wv G' m (t+1)/(y*2 ^ s):Nat):Int)) hn1.symm
            have e2:=(RQ.out.setOther ⟨w.heap.size,m+t,none⟩ (.int .u32 (dg:Int)) hn1).set m (wv G' m (t+1)/(y*2 ^ s))
            have e3:=(RDD.out.setOther ⟨w.heap.size,m+t,none⟩ (.int .u32 (dg:Int)) hn2).setOther ⟨bq,m,none⟩ (.int .u32 ((wv G' m (t+1)/(y*2 ^ s):Nat):Int)) hn3
            have e4:=(HBB.out.setCell (p:=⟨w.heap.size,m+t,none⟩) (Nat.le_refl _) (.int .u32 (dg:Int))).setCell (p:=⟨bq,m,none⟩) hn4 (.int .u32 ((wv G' m (t+1)/(y*2 ^ s):Nat):Int))
            refine ⟨(m:Int) - 1,rfl,by omega,by omega,_,_,⟨e1,e2,e3,e4⟩,?_⟩
            rw [show ((m:Int) - 1+1).toNat=m by omega]
            exact HLD.out
           case measure=>simp [intOf]
       ·rw [if_neg hbb,Nat.mul_zero,Nat.add_zero] at hbd
        obtain ⟨dk,hdk⟩ : ∃ dk,dk=G2 (m+k) - C - B:=⟨_,rfl⟩
        rw [← hdk] at hbd
        have hst:=yt (dk:=dk) hms (by omega) rfl (by rw [if_neg hbb,Nat.mul_zero,Nat.add_zero];exact hbd.2.2) hbd.2.1
        rw [if_neg hbb,Nat.mul_zero,Nat.add_zero] at hst
        have hq:=Gg hg.out.2.1 hg.out.2.2 aaG.out hst.1
        have hld:=CB HL2.out hm (by rw [← HV.out];exact aaG.out) HVL.out (by omega) (by rw [← HV.out];exact hq.2) hst.2.1 hst.2.2
        have HLD:=Lib.hid hld
        have HST:=Lib.hid hst
        have HDG:Hid ((G2 (m+k):Int) - ((C:Int)+B)=(dk:Int)):=by
         show _=_
         omega
        have hrow2:=hrow.set (m+k) dk
        have gV:=Lib.hid hrow2
        have hnl:decide ((G2 (m+k):Int)<(C:Int)+B)=false:=by simp;omega
        have an3:(C:Int)+B≤(G2 (m+k):Int):=by omega
        have hrq:=(HM.out.2.1.touch vg (by omega:bq≠w.heap.size)).cell (j:=m) hm
        have hfq:=(HM.out.2.1.touch vg (by omega:bq≠w.heap.size)).frozen m
        have RQ:=Lib.hid (HM.out.2.1.touch vg (by omega:bq≠w.heap.size))
        have RDD:=Lib.hid (HM.out.2.2.1.touch vg (by omega:bd≠w.heap.size))
        have HBB:=Lib.hid (Touch.below HM.out.2.2.2 vg (Nat.le_refl _))
        have hgq:g=wv G' m (k+1)/(y*2 ^ s):=by rw [← HV.out];exact hq.1
        have hn1:bq≠w.heap.size:=by omega
        have hn2:bd≠w.heap.size:=by omega
        have hn3:bd≠bq:=by omega
        have hn4:w.heap.size≤bq:=by omega
        have HGQ:=Lib.hid hgq
        clear hst hbd hq hdk hbb hms hrow2 hrow hld hgq
        -- <<C
        as_aux_lemma =>
         go_wp2
         go_roundw
         case rel =>
          rw [HDG.out]
          have e1:=gV.out.setOther ⟨bq,m,none⟩ (.int .u32 (g:Int)) hn1.symm
          have e2:=(RQ.out.setOther ⟨w.heap.size,m+k,none⟩ (.int .u32 (dk:Int)) hn1).set m g
          have e3:=(RDD.out.setOther ⟨w.heap.size,m+k,none⟩ (.int .u32 (dk:Int)) hn2).setOther ⟨bq,m,none⟩ (.int .u32 (g:Int)) hn3
          have e4:=(HBB.out.setCell (p:=⟨w.heap.size,m+k,none⟩) (Nat.le_refl _) (.int .u32 (dk:Int))).setCell (p:=⟨bq,m,none⟩) hn4 (.int .u32 (g:Int))
          refine ⟨(m:Int) - 1,rfl,by omega,by omega,_,_,⟨e1,e2,e3,e4⟩,?_⟩
          rw [show ((m:Int) - 1+1).toNat=m by omega,HGQ.out]
          exact HLD.out
         case measure=>simp [intOf]
        -- >>C
end Go.Proofs.Ins
