/- The walk of insolvencyref1.shifted. -/
import Derived.Test.YtiaefgffeekfkaaGreatDoorY7
set_option linter.unusedSimpArgs false
set_option linter.unusedVariables false
set_option maxHeartbeats 8000000
namespace Go.Proofs.Ins
open Go.RowKit
set_option maxRecDepth 100000 in
theorem strip_zero (a:Option Addr) (cap:Nat) (w:World) :
  Calls Tryz.prog 186 #[.slice a 0 cap] w fun e w'=>e = .returned (.slice a 0 cap)∧w=w':=by
 go_enter Tryz.func186,Tryz.ntmps186
 go_wp2
 go_loop [3] (fun i=>i = .int .i64 0) (fun _=>0)
 case atStart=>exact rfl
 case round =>
  subst hrel
  cases a with
  | none =>
   go_wp2
   go_ret
   exact ⟨rfl,rfl⟩
  | some p =>
   go_wp2
   go_ret
   exact ⟨rfl,rfl⟩
set_option maxRecDepth 100000 in
theorem rtext_zero (a:Option Addr) (cap:Nat) (w:World) :
  Calls Tryz.prog 167 #[.slice a 0 cap] w fun e w'=>e = .returned (.string (bn 0))∧Below w.heap.size w w':=by
 obtain ⟨i0,hi,hz0,hz1,hz2⟩:=info_parts u8info
 go_enter Tryz.func167,Tryz.ntmps167
 go_wp2_with fail
 refine (strip_zero a cap w).mono ?_;rintro e w' ⟨rfl,rfl⟩
 go_wp2_with (refine wpList_make_own _ rfl _ _ 211 rfl w.heap.size 5 i0 (.int .u8 0) 1 Tryz.underlying211 hi hz0 hz1 .i64 .i64 _ 0 rfl rfl rfl (by rw [hz2];omega) (by unfold maxLen;omega) (Nat.le_refl _) ?_;intro w1 ho1 hg1)
 have hb1:Below w.heap.size w w1:=(Below.refl _ _).grown hg1 (Nat.le_refl _) (fun k h=>by cases h)
 have HO1:Hid (ORow w1 w.heap.size 5 .u8 (.slice (some ⟨w.heap.size,0,none⟩) 0 0) 0 (fun _=>0)):=ho1
 have hcv:=HO1.out.str (P:=Tryz.prog) (src:=211) (dst:=9) Tryz.underlying211 Tryz.underlying5 Tryz.underlying9
 clear ho1 hg1
 go_loopw [3,4] (fun v i wr=>v = .slice (some ⟨w.heap.size,0,none⟩) 0 0∧i = .int .i64 (-1)∧wr=w1) (fun _ _ _=>0)
 case atStart=>exact ⟨rfl,rfl,rfl⟩
 case round =>
  obtain ⟨rfl,rfl,rfl⟩:=hrel
  go_wp2_with fail
  refine (rNormalize_any _ _ ?_).mono ?_
  ·show (0:Nat)≤_;omega
  rintro e w' ⟨rfl,rfl⟩
  go_wp2
  go_ret
  exact ⟨rfl,hb1⟩
theorem rtext_any (a:Option Addr) (len cap x:Nat) (w:World) (h:Limbs w a len x) (hl:len≤268435456) (hcap:len≤cap) :
  Calls Tryz.prog 167 #[.slice a len cap] w fun e w'=>e = .returned (.string (bn x))∧Below w.heap.size w w':=by
 obtain ⟨f,rfl,h2,h3⟩:=h
 rcases h3 with rfl|⟨b,off,rfl,hr⟩
 ·exact rtext_zero a cap w
 ·exact rtext_walk b off len cap f w hl hcap hr h2.1 (fun h=>hr.lt h)
set_option maxRecDepth 100000 in
theorem rfromUint_any (u:Nat) (w:World) (hu:u<18446744073709551616) :
  Calls Tryz.prog 111 #[.int .u64 (u:Int)] w fun e w'=>e = .returned (.string (bn u))∧Below w.heap.size w w':=by
 have e1:((u:Int)%4294967296)=((u%4294967296:Nat):Int):=by omega
 have e2:((u:Int)/4294967296)=((u/4294967296:Nat):Int):=by omega
 obtain ⟨x,hx⟩ : ∃ x,x=u%4294967296:=⟨_,rfl⟩
 obtain ⟨y,hy⟩ : ∃ y,y=u/4294967296:=⟨_,rfl⟩
 have hyl:y<4294967296:=by omega
 have hu2:(u:Int)≤18446744073709551615:=by omega
 have hlv:lv (fun j=>if j=0 then x else y) 2=u:=by simp [lv];unfold LB;omega
 have hlim : ∀ j,j<2→(if j=0 then x else y)<LB:=by intro j _;unfold LB;split <;> omega
 have hyl2:(y:Int)%4294967296=y:=by omega
 rw [← hx] at e1
 rw [← hy] at e2
 have HLV:=Lib.hid hlv
 have HLM:=Lib.hid hlim
 clear hx hy hlv hlim
 go_enter Tryz.func111,Tryz.ntmps111
 go_wp2_with fail
 have hrow:=row_two w 179 x y
 refine (rtext_walk w.heap.size 0 2 2 _ _ (by omega) (by omega) hrow.reads HLM.out (fun _=>hrow.lt)).mono ?_
 rintro e w4 ⟨rfl,hb4⟩
 rw [HLV.out]
 clear hrow
 go_wp2
 go_ret
 exact ⟨rfl,((Below.refl _ _).alloc (Nat.le_refl _) _).trans (hb4.mono (by simp))⟩
theorem sum_can {fx fy:Nat→Nat} {lx ly k:Nat} (hx:Can fx lx) (hy:Can fy ly) (h1:lx≤k) (h2:ly≤k) (h3:k≤max lx ly∨(k=max lx ly+1∧cry (ext fx lx) (ext fy ly) (max lx ly)=1)) (h4:cry (ext fx lx) (ext fy ly) k=0) :
  Can (sdg (ext fx lx) (ext fy ly)) k∧lv (sdg (ext fx lx) (ext fy ly)) k=lv fx lx+lv fy ly:=by
 have hs:=sdg_lv (ext fx lx) (ext fy ly) k
 rw [h4,Nat.mul_zero,Nat.add_zero,lv_ext h1,lv_ext h2] at hs
 refine ⟨⟨fun j _=>Nat.mod_lt _ LB_pos,?_⟩,hs⟩
 rcases Nat.eq_zero_or_pos k with e|e
 ·exact .inl e
 ·right
  intro h0
  rcases h3 with h3|⟨h3,h5⟩
  ·have hlt:lv (sdg (ext fx lx) (ext fy ly)) k<LB ^ (k - 1):=by
    obtain ⟨m,rfl⟩ : ∃ m,k=m+1:=⟨k - 1,by omega⟩
    rw [Nat.add_sub_cancel] at *
    rw [lv_succ,h0,Nat.mul_zero,Nat.add_zero]
    exact lv_lt fun j _=>Nat.mod_lt _ LB_pos
   rcases (show lx=k∨ly=k by omega) with e2|e2
   ·subst e2;have:=hx.ge (by omega);omega
   ·subst e2;have:=hy.ge (by omega);omega
  ·subst h3
   rw [Nat.add_sub_cancel] at h0
   unfold sdg at h0
   rw [h5,ext_out (by omega),ext_out (by omega)] at h0
   exact absurd h0 (by decide)
set_option maxRecDepth 100000 in
theorem plus_any (ax ay:Option Addr) (lx ly cx cy x y:Nat) (w:World) (hX:Limbs w ax lx x) (hY:Limbs w ay ly y) (hll:lx≤1073741824) (hlm:ly≤1073741824) :
  Calls Tryz.prog 147 #[.slice ax lx cx,.slice ay ly cy] w (RetLimbs w (x+y)):=by
 obtain ⟨fx,hX⟩:=hX
 obtain ⟨fy,hY⟩:=hY
 have HX:Hid (LimbsF w ax lx x fx):=hX
 have HY:Hid (LimbsF w ay ly y fy):=hY
 clear hX hY
 go_enter Tryz.func147,Tryz.ntmps147
 go_wp2_with fail
 go_loopw [5,6,7] (fun v c i wr=>∃ k:Nat,i = .int .i64 k∧Hid (k≤max lx ly∨(k=max lx ly+1∧cry (ext fx lx) (ext fy ly) (max lx ly)=1))∧c = .int .u64 (cry (ext fx lx) (ext fy ly) k)∧ORow wr w.heap.size 179 .u32 v k (sdg (ext fx lx) (ext fy ly))∧Below w.heap.size w wr) (fun _ _ i _=>max lx ly+1 - (intOf i).toNat)
 case atStart=>exact ⟨0,rfl,.inl (by omega),rfl,ORow.nil _ _ _ _ _,Below.refl _ _⟩
 case round =>
  obtain ⟨k,rfl,hkk,rfl,hown,hbel⟩:=hrel
  have HO:=Lib.hid hown
  clear hown
  have hsz:=hbel.size
  have c0:=cry_le (ext_lt HX.out.2.1.1) (ext_lt HY.out.2.1.1) k
  have fk:=ext_lt HX.out.2.1.1 k
  have gk:=ext_lt HY.out.2.1.1 k
  have HS:=Lib.hid (cry_succ (ext fx lx) (ext fy ly) k)
  have HD:Hid (sdg (ext fx lx) (ext fy ly) k=(ext fx lx k+ext fy ly k+cry (ext fx lx) (ext fy ly) k)%LB):=rfl
  have hkb:k≤max lx ly+1:=by rcases hkk.out with h|h <;> omega
  have hkb2:k+1≤2147483648:=by omega
  have HEND:=Lib.hid (fun (h1:lx≤k) (h2:ly≤k) (h4:cry (ext fx lx) (ext fy ly) k=0)=>sum_can HX.out.2.1 HY.out.2.1 h1 h2 hkk.out h4)
  have HMX:=Lib.hid (fun (h:k=max lx ly) (h1:cry (ext fx lx) (ext fy ly) k=1)=>show cry (ext fx lx) (ext fy ly) (max lx ly)=1 by rw [← h];exact h1)
  rw [LB_eq] at fk gk
  generalize hC:cry (ext fx lx) (ext fy ly) k=C at *
  generalize hF:ext fx lx k=F at *
  generalize hG:ext fy ly k=G at *
  have HC:=Lib.hid hC
  have HF:=Lib.hid hF
  have HG:=Lib.hid hG
  clear hC hF hG
  have z1:(C:Int)≤1:=by omega
  have z2:(F:Int)≤4294967295:=by omega
  have z3:(G:Int)≤4294967295:=by omega
  by_cases hxl:k<lx
  ·by_cases hyl:k<ly
   ·as_aux_lemma =>
    rcases HX.out.2.2 with h0|⟨b1,o1,rfl,r1⟩
    ·omega
    have hcx:=(r1.below hbel (r1.lt (by omega))) k hxl
    rw [← ext_in (f:=fx) hxl,HF.out] at hcx
    clear r1
    rcases HY.out.2.2 with h0|⟨b2,o2,rfl,r2⟩
    ·omega
    have hcy:=(r2.below hbel (r2.lt (by omega))) k hyl
    rw [← ext_in (f:=fy) hyl,HG.out] at hcy
    clear r2
    go_wp2_with (at_builtin;refine wpList_append1 _ _ 176 179 .u32 4 w.heap.size _ _ _ (sdg (ext fx lx) (ext fy ly) k) _ rfl rfl Tryz.underlying176 u32info rfl rfl (by have:=HD.out;unfold LB at this;omega) HO.out (by omega) (by omega) hsz ?_;intro v' w2 ho2 hb2)
    go_roundw
    case rel =>
     refine ⟨k+1,by go_num,?_,?_,(ho2.congr fun j hj=>?_),hbel.trans hb2⟩
     ·exact .inl (by omega)
     ·have h:=HS.out
      unfold LB at h
      congr 1;omega
     ·by_cases e:j=k
      ·subst e;rw [upd_same]
      ·rw [upd_other _ _ _ e]
    case measure=>simp [intOf];omega
   ·as_aux_lemma =>
    rcases HX.out.2.2 with h0|⟨b1,o1,rfl,r1⟩
    ·omega
    have hcx:=(r1.below hbel (r1.lt (by omega))) k hxl
    rw [← ext_in (f:=fx) hxl,HF.out] at hcx
    clear r1
    have hG0:G=0:=by rw [← HG.out];exact ext_out (by omega)
    subst hG0
    have hyn:decide (k<ly)=false:=by simp;omega
    go_wp2_with (at_builtin;refine wpList_append1 _ _ 176 179 .u32 4 w.heap.size _ _ _ (sdg (ext fx lx) (ext fy ly) k) _ rfl rfl Tryz.underlying176 u32info rfl rfl (by have:=HD.out;unfold LB at this;omega) HO.out (by omega) (by omega) hsz ?_;intro v' w2 ho2 hb2)
    go_roundw
    case rel =>
     refine ⟨k+1,by go_num,?_,?_,(ho2.congr fun j hj=>?_),hbel.trans hb2⟩
     ·exact .inl (by omega)
     ·have h:=HS.out
      unfold LB at h
      congr 1;omega
     ·by_cases e:j=k
      ·subst e;rw [upd_same]
      ·rw [upd_other _ _ _ e]
    case measure=>simp [intOf];omega
  ·by_cases hyl:k<ly
   ·as_aux_lemma =>
    have hF0:F=0:=by rw [← HF.out];exact ext_out (by omega)
    subst hF0
    have hxn:decide (k<lx)=false:=by simp;omega
    rcases HY.out.2.2 with h0|⟨b2,o2,rfl,r2⟩
    ·omega
    have hcy:=(r2.below hbel (r2.lt (by omega))) k hyl
    rw [← ext_in (f:=fy) hyl,HG.out] at hcy
    clear r2
    go_wp2_with (at_builtin;refine wpList_append1 _ _ 176 179 .u32 4 w.heap.size _ _ _ (sdg (ext fx lx) (ext fy ly) k) _ rfl rfl Tryz.underlying176 u32info rfl rfl (by have:=HD.out;unfold LB at this;omega) HO.out (by omega) (by omega) hsz ?_;intro v' w2 ho2 hb2)
    go_roundw
    case rel =>
     refine ⟨k+1,by go_num,?_,?_,(ho2.congr fun j hj=>?_),hbel.trans hb2⟩
     ·exact .inl (by omega)
     ·have h:=HS.out
      unfold LB at h
      congr 1;omega
     ·by_cases e:j=k
      ·subst e;rw [upd_same]
      ·rw [upd_other _ _ _ e]
    case measure=>simp [intOf];omega
   ·by_cases hc1:C=1
    ·as_aux_lemma =>
     have hF0:F=0:=by rw [← HF.out];exact ext_out (by omega)
     subst hF0
     have hxn:decide (k<lx)=false:=by simp;omega
     have hG0:G=0:=by rw [← HG.out];exact ext_out (by omega)
     subst hG0
     have hyn:decide (k<ly)=false:=by simp;omega
     subst hc1
     have hkm:k=max lx ly:=by
      rcases hkk.out with h|⟨h,h7⟩
      ·omega
      ·exfalso
       have h5:=HC.out
       rw [h,cry_succ,ext_out (by omega),ext_out (by omega),h7] at h5
       exact absurd h5 (by decide)
     have HKM:=Lib.hid hkm
     clear hkm
     go_wp2_with (at_builtin;refine wpList_append1 _ _ 176 179 .u32 4 w.heap.size _ _ _ (sdg (ext fx lx) (ext fy ly) k) _ rfl rfl Tryz.underlying176 u32info rfl rfl (by have:=HD.out;unfold LB at this;omega) HO.out (by omega) (by omega) hsz ?_;intro v' w2 ho2 hb2)
     go_roundw
     case rel =>
      refine ⟨k+1,by go_num,?_,?_,(ho2.congr fun j hj=>?_),hbel.trans hb2⟩
      ·have:=HKM.out;exact .inr ⟨by omega,HMX.out HKM.out rfl⟩
      ·have h:=HS.out
       unfold LB at h
       congr 1;omega
      ·by_cases e:j=k
       ·subst e;rw [upd_same]
       ·rw [upd_other _ _ _ e]
     case measure=>have:=HKM.out;simp [intOf];omega
    ·as_aux_lemma =>
     have hC0:C=0:=by omega
     subst hC0
     have hF0:F=0:=by rw [← HF.out];exact ext_out (by omega)
     have hG0:G=0:=by rw [← HG.out];exact ext_out (by omega)
     have hxn:decide (k<lx)=false:=by simp;omega
     have hyn:decide (k<ly)=false:=by simp;omega
     obtain ⟨e1,e2⟩:=HEND.out (by omega) (by omega) rfl
     have E1:=Lib.hid e1
     have E2:=Lib.hid e2
     have hform:=Lib.hid HO.out.form
     clear e1 e2 hF0 hG0
     go_wp2
     go_ret
     have e3:lv (sdg (ext fx lx) (ext fy ly)) k=x+y:=by rw [E2.out,HX.out.1,HY.out.1]
     rcases hform.out with ⟨hv,h0⟩|⟨g,cap,hv,_,hcap,hcm,_,hr⟩
     ·exact ⟨none,0,0,by rw [← hv];rfl,Nat.le_refl _,by omega,⟨_,by rw [← e3,h0],by rw [← h0];exact E1.out,.inl rfl⟩,hbel⟩
     ·exact ⟨some ⟨g,0,none⟩,k,cap,by rw [← hv];rfl,hcap,hcm,⟨_,e3,E1.out,.inr ⟨g,0,rfl,hr⟩⟩,hbel⟩
theorem shl_conv3 (u s:Nat) (hs:s<32) (hu:u<LB) :
  IntKind.u64.wrap ((u:Int)*2 ^ s)/4294967296%4294967296=((u*2 ^ s/LB:Nat):Int):=by
 have h1:=shl_high hs hu
 have h2:2 ^ s≤LB:=by rw [LB_split (Nat.le_of_lt hs)];exact Nat.le_mul_of_pos_left _ (Nat.pow_pos (by omega))
 rw [wrap_shl u s hs hu]
 rw [LB_eq] at *
 generalize u*2 ^ s=x at *
 omega
set_option maxRecDepth 100000 in
theorem shifted_walk (b1 o1 la c1 s:Nat) (f:Nat→Nat) (w:World) (hn:la≤1073741824) (hf:Reads w b1 o1 .u32 la f) (lf : ∀ j,j<la→f j<LB) (hs:s<32) (hla:0<la) :
  Calls Tryz.prog 271 #[.slice (some ⟨b1,o1,none⟩) la c1,.int .u64 (s:Int)] w (RetShl w 179 (la+1) (lv f la*2 ^ s)):=by
 go_enter Tryz.func271,Tryz.ntmps271
 go_wp2_with (refine wpList_makeT _ _ 176 179 .u32 4 (la+1) _ rfl rfl Tryz.underlying176 u32info rfl rfl (by omega) (by omega) (by omega) ?_;intro w3 hr3 hb3 hz3)
 go_loopw [6] (fun i wr=>∃ k:Nat,i = .int .i64 k∧k≤la∧(∃ O,Row wr w.heap.size 179 .u32 (la+1) O∧ShlRow f O (la+1) k s)∧Below w.heap.size w wr) (fun i _=>la - (intOf i).toNat)
 case atStart=>exact ⟨0,rfl,by omega,⟨_,hr3,shl_start f (la+1) s⟩,hb3⟩
 case round =>
  obtain ⟨k,rfl,hk,⟨O,hrow,hsh⟩,hbel⟩:=hrel
  clear hr3 hb3 hz3
  by_cases hlt:k<la
  ·have hcell:=(hf.below hbel (hf.lt hla)) k hlt
   have hold:=hrow.cell (j:=k) (by omega)
   have hfr:=hrow.frozen k
   have fk:=lf k hlt
   have F1:(f k:Int)≤4294967295:=by unfold LB at fk;omega
   have HROW:=Lib.hid hrow
   have HSH:=Lib.hid hsh
   have hold2:=HROW.out.cell (j:=k+1) (by omega)
   have hfr2:=HROW.out.frozen (k+1)
   rw [HSH.out.2.2.2 (k+1) (by omega)] at hold2
   clear hsh hrow hf lf
   go_wp2
   go_roundw
   case rel =>
    refine ⟨k+1,by go_num,by omega,⟨_,?_,shl_step HSH.out hs fk (by omega)⟩,?_⟩
    ·rw [shl_conv1 _ _ _ hs HSH.out.2.2.1 fk,shl_conv3 _ _ hs fk]
     exact (HROW.out.set k _).set (k+1) _
    ·exact (hbel.setCell (Nat.le_refl _) _).setCell (Nat.le_refl _) _
   case measure=>simp [intOf];omega
  ·obtain rfl:k=la:=by omega
   have HF:=Lib.hid hsh
   have HROW:=Lib.hid hrow
   clear hsh hrow hf lf
   go_wp2
   go_ret
   exact ⟨O,rfl,HROW.out,HF.out.1,HF.out.2.1,hbel⟩
end Go.Proofs.Ins
