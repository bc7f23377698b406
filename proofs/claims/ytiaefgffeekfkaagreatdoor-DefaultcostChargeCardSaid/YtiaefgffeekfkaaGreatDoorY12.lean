/- The walks of insolvencyref1: Plus. -/
import Derived.Test.YtiaefgffeekfkaaGreatDoorY11
set_option linter.unusedSimpArgs false
set_option linter.unusedVariables false
set_option maxHeartbeats 8000000
namespace Go.Proofs.Ins
open Go.RowKit
theorem Limbs.shape {w:World} {a:Option Addr} {l x:Nat} (h:Limbs w a l x) (hx:0<x) :
  (l=1∧x<LB∧∃ b o,a=some ⟨b,o,none⟩∧w.cell? ⟨b,o,none⟩=some (.int .u32 (x:Int)))∨(1<l∧1<x):=by
 obtain ⟨f,rfl,h2,h3⟩:=h
 have hl:0<l:=by
  rcases Nat.eq_zero_or_pos l with e|e
  ·subst e;exact absurd hx (Nat.lt_irrefl 0)
  ·exact e
 by_cases h1:l=1
 ·subst h1
  have e:lv f 1=f 0:=by simp [lv]
  rw [e]
  rcases h3 with h3|⟨b,o,rfl,hr⟩
  ·omega
  ·refine .inl ⟨rfl,h2.1 0 (by omega),b,o,rfl,?_⟩
   have:=hr 0 (by omega)
   rwa [Nat.add_zero] at this
 ·right
  refine ⟨by omega,?_⟩
  have:=h2.ge hl
  have h5:LB ^ 1≤LB ^ (l - 1):=Nat.pow_le_pow_right LB_pos (by omega)
  rw [Nat.pow_one] at h5
  unfold LB at h5 this
  omega
set_option maxRecDepth 100000 in
theorem rden_any (q:Rat) (k:Nat) (w:World) (hq:q.den<256 ^ k) (hk:k≤268435456) :
  Calls Tryz.prog 143 #[.agg #[.bool (rn q),.string (rs q),.string (rd q)]] w (RetLimbs w q.den):=by
 by_cases h:q.den=1
 ·have e:rd q=⟨#[]⟩:=by unfold rd;rw [if_pos h]
  rw [e,h]
  generalize rn q=n
  generalize rs q=s
  clear h hq e
  go_enter Tryz.func143,Tryz.ntmps143
  go_wp2
  go_ret
  refine ⟨_,1,1,rfl,Nat.le_refl _,by decide,⟨fun _=>1,by simp [lv],⟨fun j hj=>by show 1<LB;unfold LB;omega,.inr (by decide)⟩,.inr ⟨_,0,rfl,?_⟩⟩,((Below.refl _ _).alloc (Nat.le_refl _) _).alloc (by simp) _⟩
  have h9:=(row_one (w.alloc (.cells #[.bool n,.string s,.string ⟨#[]⟩] 71)) 179 1).reads
  rw [World.size_alloc] at h9
  exact h9
 ·have e:rd q=bn q.den:=by unfold rd;rw [if_neg h]
  have e2:nv (rd q)=q.den:=by rw [e,nv_bn]
  have hs:(rd q).size≤k:=by rw [e];exact bn_size_le hq
  obtain ⟨h1,h2⟩:=bn_ne q.den_pos
  rw [← e] at h1 h2
  have HL:=Lib.hid (fun w=>rlimbs_any (rd q) w (by omega))
  rw [e2] at HL
  generalize q.den=D at *
  generalize rn q=n at *
  generalize rs q=s at *
  generalize rd q=d at *
  clear h hq e e2
  go_enter Tryz.func143,Tryz.ntmps143
  go_wp2_with fail
  refine (HL.out _).mono ?_;rintro e w3 ⟨a,len,cap,rfl,g1,g2,g3,g4⟩
  have G3:=Lib.hid g3
  have G4:=Lib.hid (boxes1 g4).2
  clear g3 g4
  go_wp2
  go_ret
  exact ⟨a,len,cap,rfl,g1,g2,G3.out,G4.out⟩
theorem gcd_divides_pos {x y:Nat} (hx:0<x) (hy:0<y):0<Nat.gcd x y∧0<x/Nat.gcd x y∧0<y/Nat.gcd x y :=
 ⟨Nat.gcd_pos_of_pos_left _ hx,Nat.div_pos (Nat.gcd_le_left y hx) (Nat.gcd_pos_of_pos_left y hx),Nat.div_pos (Nat.gcd_le_right x hy) (Nat.gcd_pos_of_pos_left y hx)⟩
set_option maxRecDepth 100000 in
theorem rreduced_zero (neg:Bool) (ax ay:Option Addr) (cx ly cy:Nat) (w:World) :
  Calls Tryz.prog 146 #[.bool neg,.slice ax 0 cx,.slice ay ly cy] w fun e w'=>e = .returned (rv 0)∧Below w.heap.size w w':=by
 go_enter Tryz.func146,Tryz.ntmps146
 go_wp2
 exact bodyPost_ret (v:=rv 0) (by simp [results,Tryz.results146,go_sem,rv,rn_zero,rs_zero,rd_zero]) rfl ⟨rfl,(Below.refl _ _).alloc (Nat.le_refl _) _⟩
set_option maxRecDepth 100000 in
theorem rreduced_pos (neg:Bool) (ax ay:Option Addr) (lx ly cx cy x y k:Nat) (w:World) (h1:LimV w ax lx cx x) (h2:LimV w ay ly cy y) (hx:0<x) (hy:0<y) (kx:x<256 ^ k) (ky:y<256 ^ k) (hk:k≤1073741820) :
  Calls Tryz.prog 146 #[.bool neg,.slice ax lx cx,.slice ay ly cy] w fun e w'=>e = .returned (rv (fr neg x y))∧Below w.heap.size w w':=by
 rw [rv_fr hx hy]
 obtain ⟨g0,n0,d0⟩:=gcd_divides_pos hx hy
 have kn:x/Nat.gcd x y<256 ^ k:=Nat.lt_of_le_of_lt (Nat.div_le_self _ _) kx
 have kd:y/Nat.gcd x y<256 ^ k:=Nat.lt_of_le_of_lt (Nat.div_le_self _ _) ky
 have kg:Nat.gcd x y<256 ^ k:=Nat.lt_of_le_of_lt (Nat.gcd_le_left _ hx) kx
 have hlx:0<lx:=by
  rcases Nat.eq_zero_or_pos lx with e|e
  ·have:=h1.2.2.2.zero_iff.mpr e;omega
  ·exact e
 have hq1:Nat.gcd x y=1→x/Nat.gcd x y=x∧y/Nat.gcd x y=y:=fun e=>by rw [e,Nat.div_one,Nat.div_one];exact ⟨rfl,rfl⟩
 have HCM:=Lib.hid (fun w (h1:LimV w ax lx cx x) (h2:LimV w ay ly cy y)=>common_any ax ay lx ly cx cy x y w h1 h2)
 have HDX:=Lib.hid (fun w ag lg cg (h1:LimV w ax lx cx x) (h2:LimV w ag lg cg (Nat.gcd x y))=>rdivide_any ax ag lx lg cx cg x (Nat.gcd x y) w h1.2.2.2 h2.2.2.2 g0 h1.2.2.1 h1.1 h1.2.1 h2.2.2.1)
 have HDY:=Lib.hid (fun w ag lg cg (h1:LimV w ay ly cy y) (h2:LimV w ag lg cg (Nat.gcd x y))=>rdivide_any ay ag ly lg cy cg y (Nat.gcd x y) w h1.2.2.2 h2.2.2.2 g0 h1.2.2.1 h1.1 h1.2.1 h2.2.2.1)
 have HN:=Lib.hid h1
 have HM:=Lib.hid h2
 have HQ1:=Lib.hid hq1
 have KN:=Lib.hid kn
 have KD:=Lib.hid kd
 have KG:=Lib.hid kg
 clear h1 h2 kn kd kg kx ky hq1
 generalize hNe:x/Nat.gcd x y=N at *
 generalize hDe:y/Nat.gcd x y=D at *
 generalize Nat.gcd x y=G at *
 have HNE:=Lib.hid hNe
 have HDE:=Lib.hid hDe
 clear hNe hDe
 generalize hT:(if D=1 then (⟨#[]⟩:ByteArray) else bn D)=T
 have HT:=Lib.hid hT
 clear hT
 go_enter Tryz.func146,Tryz.ntmps146
 go_wp2_with fail
 have z0:=(Below.refl w.heap.size w).alloc (Nat.le_refl _) (.cells #[.bool false,.string ⟨#[]⟩,.string ⟨#[]⟩] 71)
 have A1:LimV (w.alloc (.cells #[.bool false,.string ⟨#[]⟩,.string ⟨#[]⟩] 71)) ax lx cx x:=⟨HN.out.1,HN.out.2.1,HN.out.2.2.1,HN.out.2.2.2.below z0 (Nat.le_refl _)⟩
 have A2:LimV (w.alloc (.cells #[.bool false,.string ⟨#[]⟩,.string ⟨#[]⟩] 71)) ay ly cy y:=⟨HM.out.1,HM.out.2.1,HM.out.2.2.1,HM.out.2.2.2.below z0 (Nat.le_refl _)⟩
 refine (HCM.out _ A1 A2).mono ?_;rintro e w3 ⟨ag,lg,cg,rfl,lcg,ccg,hG,hb3⟩
 have llg:=RetLimbs.lim (w:=w) hG KG.out (by omega)
 have B1:=Lib.hid (show LimV w3 ax lx cx x from ⟨A1.1,A1.2.1,A1.2.2.1,A1.2.2.2.below hb3 (Nat.le_refl _)⟩)
 have B2:=Lib.hid (show LimV w3 ay ly cy y from ⟨A2.1,A2.2.1,A2.2.2.1,A2.2.2.2.below hb3 (Nat.le_refl _)⟩)
 have B3:=Lib.hid (show LimV w3 ag lg cg G from ⟨lcg,ccg,by omega,hG⟩)
 have hsh:=hG.shape g0
 have HR:=Lib.hid (boxes1 hb3).1
 have HB:=Lib.hid (boxes1 hb3).2
 clear hb3 hG A1 A2 HCM HN HM z0
 rcases hsh with ⟨rfl,hgl,bg,og,rfl,cg0⟩|⟨hlg,hg1⟩
 ·by_cases hg1:G=1
  ·as_aux_lemma =>
   obtain ⟨e1,e2⟩:=HQ1.out hg1
   have M1:=Lib.hid (show LimV w3 ax lx cx N by rw [e1];exact B1.out)
   have M2:=Lib.hid (show LimV w3 ay ly cy D by rw [e2];exact B2.out)
   rw [hg1] at cg0
   replace cg0:w3.cell? ⟨bg,og,none⟩=some (.int .u32 1):=cg0
   clear e1 e2 HQ1 B1 B2 B3 HDX HDY hg1
   obtain ⟨u1,u2,u3,hN⟩:=M1.out
   obtain ⟨v1,v2,v3,hD⟩:=M2.out
   have ln:=RetLimbs.lim (w:=w) hN KN.out (by omega)
   have ld:=RetLimbs.lim (w:=w) hD KD.out (by omega)
   have HNN:=Lib.hid hN
   have HDD:=Lib.hid hD
   clear hN hD
   go_wp2_with fail
   refine (rtext_any _ _ _ _ _ HNN.out (by omega) u1).mono ?_;rintro e w6 ⟨rfl,hb6⟩
   have HR6:=Lib.hid (HR.out.on hb6)
   have HB6:=Lib.hid (chain HB.out hb6 (Nat.le_refl _))
   have hD6:=HDD.out.below hb6 (Nat.le_refl _)
   have HD6:=Lib.hid hD6
   have hsd:=hD6.shape d0
   clear hb6 hD6 HR HB HNN HDD
   have z6:=HR6.out.lt
   rcases hsd with ⟨rfl,hdl,bd,od,rfl,cd⟩|⟨hld,hd1⟩
   ·have zd:=block_lt_of_cell cd
    have cd2:=((Below.refl w6.heap.size w6).alloc (Nat.le_refl _) (.cells #[.bool neg,.string (bn N),.string ⟨#[]⟩] 71)).cell (p:=⟨bd,od,none⟩) zd
    by_cases hd1:D=1
    ·as_aux_lemma =>
     subst hd1
     have hT:=HT.out
     rw [if_pos rfl] at hT
     subst hT
     replace cd:w6.cell? ⟨bd,od,none⟩=some (.int .u32 1):=cd
     rw [cd] at cd2
     obtain ⟨a0,a1,a2,a3,a4,a5⟩:=HR6.out.get3
     go_wp2
     have q9:=below_set3 HB6.out (Nat.le_refl _) (.bool neg) (.string (bn N)) (.string ⟨#[]⟩)
     refine bodyPost_forget (fun W=>Blk W w.heap.size #[.bool neg,.string (bn N),.string ⟨#[]⟩]∧Below w.heap.size w W) ⟨by exact (Blk.set3 HR6.out _ _ _).alloc _,by exact q9.alloc q9.size _⟩ ?_
     rintro WR ⟨hr9,hb9⟩
     obtain ⟨y90,y91,y92,-,-,-⟩:=hr9.get3
     exact bodyPost_ret (v:=.agg #[.bool neg,.string (bn N),.string ⟨#[]⟩]) (by simp [results,Tryz.results146,go_sem,y90,y91,y92]) rfl ⟨rfl,hb9⟩
    ·as_aux_lemma =>
     have hT:=HT.out
     rw [if_neg hd1] at hT
     subst hT
     rw [cd] at cd2
     have hd2:(1:Int)<(D:Int):=by omega
     have hd3:(D:Int)≤4294967295:=by unfold LB at hdl;omega
     clear hd1
     go_wp2_with fail
     refine (rtext_any _ _ _ _ _ (HD6.out.below ((Below.refl w6.heap.size w6).alloc (Nat.le_refl _) _) (Nat.le_refl _)) (by omega) v1).mono ?_;rintro e w7 ⟨rfl,hb7⟩
     have R7:=Lib.hid ((HR6.out.alloc _).on hb7)
     have S7:=Lib.hid ((Blk.new w6 #[.bool neg,.string (bn N),.string ⟨#[]⟩] 71).on hb7)
     have B7:=Lib.hid (chain (HB6.out.alloc (by omega) _) hb7 (Nat.le_refl _))
     obtain ⟨a0,a1,a2,a3,a4,a5⟩:=R7.out.get3
     obtain ⟨b0,b1,b2,b3,b4,b5⟩:=S7.out.get3
     have hne:w6.heap.size≠w.heap.size:=by omega
     clear hb7
     go_wp2
     refine bodyPost_forget (fun W=>Blk W w.heap.size #[.bool neg,.string (bn N),.string (bn D)]∧Below w.heap.size w W) ⟨by exact Blk.set3 (R7.out.setOther _ _ (by exact hne.symm)) _ _ _,below_set3 (B7.out.setCell (by exact Nat.le_of_lt z6) _) (Nat.le_refl _) _ _ _⟩ ?_
     rintro WR ⟨hr9,hb9⟩
     obtain ⟨y90,y91,y92,-,-,-⟩:=hr9.get3
     exact bodyPost_ret (v:=.agg #[.bool neg,.string (bn N),.string (bn D)]) (by simp [results,Tryz.results146,go_sem,y90,y91,y92]) rfl ⟨rfl,hb9⟩
   ·as_aux_lemma =>
     have hd2:(1:Int)<(ly:Int):=by omega
     have hT:=HT.out
     rw [if_neg (by omega)] at hT
     subst hT
     go_wp2_with fail
     refine (rtext_any _ _ _ _ _ (HD6.out.below ((Below.refl w6.heap.size w6).alloc (Nat.le_refl _) _) (Nat.le_refl _)) (by omega) v1).mono ?_;rintro e w7 ⟨rfl,hb7⟩
     have R7:=Lib.hid ((HR6.out.alloc _).on hb7)
     have S7:=Lib.hid ((Blk.new w6 #[.bool neg,.string (bn N),.string ⟨#[]⟩] 71).on hb7)
     have B7:=Lib.hid (chain (HB6.out.alloc (by omega) _) hb7 (Nat.le_refl _))
     obtain ⟨a0,a1,a2,a3,a4,a5⟩:=R7.out.get3
     obtain ⟨b0,b1,b2,b3,b4,b5⟩:=S7.out.get3
     have hne:w6.heap.size≠w.heap.size:=by omega
     clear hb7
     go_wp2
     refine bodyPost_forget (fun W=>Blk W w.heap.size #[.bool neg,.string (bn N),.string (bn D)]∧Below w.heap.size w W) ⟨by exact Blk.set3 (R7.out.setOther _ _ (by exact hne.symm)) _ _ _,below_set3 (B7.out.setCell (by exact Nat.le_of_lt z6) _) (Nat.le_refl _) _ _ _⟩ ?_
     rintro WR ⟨hr9,hb9⟩
     obtain ⟨y90,y91,y92,-,-,-⟩:=hr9.get3
     exact bodyPost_ret (v:=.agg #[.bool neg,.string (bn N),.string (bn D)]) (by simp [results,Tryz.results146,go_sem,y90,y91,y92]) rfl ⟨rfl,hb9⟩
  ·as_aux_lemma =>
   have hg2:(1:Int)<(G:Int):=by omega
   have hg3:(G:Int)≤4294967295:=by unfold LB at hgl;omega
   clear hg1 HQ1
   go_wp2_with fail
   refine (HDX.out _ _ _ _ B1.out B3.out).mono ?_;rintro e w4 ⟨an,ln,cn,qn,l9,c9,rfl,g1,g2,g3,g4,g5,g6,g7⟩
   rw [HNE.out] at g5
   have lln:=RetLimbs.lim (w:=w) g5 KN.out (by omega)
   have C1:=Lib.hid (show LimV w4 an ln cn N from ⟨g1,g2,by omega,g5⟩)
   have C2:=Lib.hid (show LimV w4 ay ly cy y from ⟨B2.out.1,B2.out.2.1,B2.out.2.2.1,B2.out.2.2.2.below g7 (Nat.le_refl _)⟩)
   have C3:=Lib.hid (show LimV w4 (some ⟨bg,og,none⟩) 1 cg G from ⟨B3.out.1,B3.out.2.1,B3.out.2.2.1,B3.out.2.2.2.below g7 (Nat.le_refl _)⟩)
   have R4:=Lib.hid (HR.out.on g7)
   have B4:=Lib.hid (chain HB.out g7 (Nat.le_refl _))
   clear g5 g6 g7 HR HB B1 B2 B3 HDX
   go_wp2_with fail
   refine (HDY.out _ _ _ _ C2.out C3.out).mono ?_;rintro e w5 ⟨adn,ldn,cdn,qd,l8,c8,rfl,g1',g2',g3',g4',g5,g6,g7⟩
   rw [HDE.out] at g5
   have lld:=RetLimbs.lim (w:=w) g5 KD.out (by omega)
   have M1:=Lib.hid (show LimV w5 an ln cn N from ⟨C1.out.1,C1.out.2.1,C1.out.2.2.1,C1.out.2.2.2.below g7 (Nat.le_refl _)⟩)
   have M2:=Lib.hid (show LimV w5 adn ldn cdn D from ⟨g1',g2',by omega,g5⟩)
   have HR:=Lib.hid (R4.out.on g7)
   have HB:=Lib.hid (chain B4.out g7 (Nat.le_refl _))
   clear g5 g6 g7 R4 B4 C1 C2 C3 HDY
   obtain ⟨u1,u2,u3,hN⟩:=M1.out
   obtain ⟨v1,v2,v3,hD⟩:=M2.out
   have ln:=RetLimbs.lim (w:=w) hN KN.out (by omega)
   have ld:=RetLimbs.lim (w:=w) hD KD.out (by omega)
   have HNN:=Lib.hid hN
   have HDD:=Lib.hid hD
   clear hN hD
   go_wp2_with fail
   refine (rtext_any _ _ _ _ _ HNN.out (by omega) u1).mono ?_;rintro e w6 ⟨rfl,hb6⟩
   have HR6:=Lib.hid (HR.out.on hb6)
   have HB6:=Lib.hid (chain HB.out hb6 (Nat.le_refl _))
   have hD6:=HDD.out.below hb6 (Nat.le_refl _)
   have HD6:=Lib.hid hD6
   have hsd:=hD6.shape d0
   clear hb6 hD6 HR HB HNN HDD
   have z6:=HR6.out.lt
   rcases hsd with ⟨rfl,hdl,bd,od,rfl,cd⟩|⟨hld,hd1⟩
   ·have zd:=block_lt_of_cell cd
    have cd2:=((Below.refl w6.heap.size w6).alloc (Nat.le_refl _) (.cells #[.bool neg,.string (bn N),.string ⟨#[]⟩] 71)).cell (p:=⟨bd,od,none⟩) zd
    by_cases hd1:D=1
    ·as_aux_lemma =>
     subst hd1
     have hT:=HT.out
     rw [if_pos rfl] at hT
     subst hT
     replace cd:w6.cell? ⟨bd,od,none⟩=some (.int .u32 1):=cd
     rw [cd] at cd2
     obtain ⟨a0,a1,a2,a3,a4,a5⟩:=HR6.out.get3
     go_wp2
     have q9:=below_set3 HB6.out (Nat.le_refl _) (.bool neg) (.string (bn N)) (.string ⟨#[]⟩)
     refine bodyPost_forget (fun W=>Blk W w.heap.size #[.bool neg,.string (bn N),.string ⟨#[]⟩]∧Below w.heap.size w W) ⟨by exact (Blk.set3 HR6.out _ _ _).alloc _,by exact q9.alloc q9.size _⟩ ?_
     rintro WR ⟨hr9,hb9⟩
     obtain ⟨y90,y91,y92,-,-,-⟩:=hr9.get3
     exact bodyPost_ret (v:=.agg #[.bool neg,.string (bn N),.string ⟨#[]⟩]) (by simp [results,Tryz.results146,go_sem,y90,y91,y92]) rfl ⟨rfl,hb9⟩
    ·as_aux_lemma =>
     have hT:=HT.out
     rw [if_neg hd1] at hT
     subst hT
     rw [cd] at cd2
     have hd2:(1:Int)<(D:Int):=by omega
     have hd3:(D:Int)≤4294967295:=by unfold LB at hdl;omega
     clear hd1
     go_wp2_with fail
     refine (rtext_any _ _ _ _ _ (HD6.out.below ((Below.refl w6.heap.size w6).alloc (Nat.le_refl _) _) (Nat.le_refl _)) (by omega) v1).mono ?_;rintro e w7 ⟨rfl,hb7⟩
     have R7:=Lib.hid ((HR6.out.alloc _).on hb7)
     have S7:=Lib.hid ((Blk.new w6 #[.bool neg,.string (bn N),.string ⟨#[]⟩] 71).on hb7)
     have B7:=Lib.hid (chain (HB6.out.alloc (by omega) _) hb7 (Nat.le_refl _))
     obtain ⟨a0,a1,a2,a3,a4,a5⟩:=R7.out.get3
     obtain ⟨b0,b1,b2,b3,b4,b5⟩:=S7.out.get3
     have hne:w6.heap.size≠w.heap.size:=by omega
     clear hb7
     go_wp2
     refine bodyPost_forget (fun W=>Blk W w.heap.size #[.bool neg,.string (bn N),.string (bn D)]∧Below w.heap.size w W) ⟨by exact Blk.set3 (R7.out.setOther _ _ (by exact hne.symm)) _ _ _,below_set3 (B7.out.setCell (by exact Nat.le_of_lt z6) _) (Nat.le_refl _) _ _ _⟩ ?_
     rintro WR ⟨hr9,hb9⟩
     obtain ⟨y90,y91,y92,-,-,-⟩:=hr9.get3
     exact bodyPost_ret (v:=.agg #[.bool neg,.string (bn N),.string (bn D)]) (by simp [results,Tryz.results146,go_sem,y90,y91,y92]) rfl ⟨rfl,hb9⟩
   ·as_aux_lemma =>
     have hd2:(1:Int)<(ldn:Int):=by omega
     have hT:=HT.out
     rw [if_neg (by omega)] at hT
     subst hT
     go_wp2_with fail
     refine (rtext_any _ _ _ _ _ (HD6.out.below ((Below.refl w6.heap.size w6).alloc (Nat.le_refl _) _) (Nat.le_refl _)) (by omega) v1).mono ?_;rintro e w7 ⟨rfl,hb7⟩
     have R7:=Lib.hid ((HR6.out.alloc _).on hb7)
     have S7:=Lib.hid ((Blk.new w6 #[.bool neg,.string (bn N),.string ⟨#[]⟩] 71).on hb7)
     have B7:=Lib.hid (chain (HB6.out.alloc (by omega) _) hb7 (Nat.le_refl _))
     obtain ⟨a0,a1,a2,a3,a4,a5⟩:=R7.out.get3
     obtain ⟨b0,b1,b2,b3,b4,b5⟩:=S7.out.get3
     have hne:w6.heap.size≠w.heap.size:=by omega
     clear hb7
     go_wp2
     refine bodyPost_forget (fun W=>Blk W w.heap.size #[.bool neg,.string (bn N),.string (bn D)]∧Below w.heap.size w W) ⟨by exact Blk.set3 (R7.out.setOther _ _ (by exact hne.symm)) _ _ _,below_set3 (B7.out.setCell (by exact Nat.le_of_lt z6) _) (Nat.le_refl _) _ _ _⟩ ?_
     rintro WR ⟨hr9,hb9⟩
     obtain ⟨y90,y91,y92,-,-,-⟩:=hr9.get3
     exact bodyPost_ret (v:=.agg #[.bool neg,.string (bn N),.string (bn D)]) (by simp [results,Tryz.results146,go_sem,y90,y91,y92]) rfl ⟨rfl,hb9⟩
 ·as_aux_lemma =>
   have hg2:(1:Int)<(lg:Int):=by omega
   clear hg1 HQ1
   go_wp2_with fail
   refine (HDX.out _ _ _ _ B1.out B3.out).mono ?_;rintro e w4 ⟨an,ln,cn,qn,l9,c9,rfl,g1,g2,g3,g4,g5,g6,g7⟩
   rw [HNE.out] at g5
   have lln:=RetLimbs.lim (w:=w) g5 KN.out (by omega)
   have C1:=Lib.hid (show LimV w4 an ln cn N from ⟨g1,g2,by omega,g5⟩)
   have C2:=Lib.hid (show LimV w4 ay ly cy y from ⟨B2.out.1,B2.out.2.1,B2.out.2.2.1,B2.out.2.2.2.below g7 (Nat.le_refl _)⟩)
   have C3:=Lib.hid (show LimV w4 ag lg cg G from ⟨B3.out.1,B3.out.2.1,B3.out.2.2.1,B3.out.2.2.2.below g7 (Nat.le_refl _)⟩)
   have R4:=Lib.hid (HR.out.on g7)
   have B4:=Lib.hid (chain HB.out g7 (Nat.le_refl _))
   clear g5 g6 g7 HR HB B1 B2 B3 HDX
   go_wp2_with fail
   refine (HDY.out _ _ _ _ C2.out C3.out).mono ?_;rintro e w5 ⟨adn,ldn,cdn,qd,l8,c8,rfl,g1',g2',g3',g4',g5,g6,g7⟩
   rw [HDE.out] at g5
   have lld:=RetLimbs.lim (w:=w) g5 KD.out (by omega)
   have M1:=Lib.hid (show LimV w5 an ln cn N from ⟨C1.out.1,C1.out.2.1,C1.out.2.2.1,C1.out.2.2.2.below g7 (Nat.le_refl _)⟩)
   have M2:=Lib.hid (show LimV w5 adn ldn cdn D from ⟨g1',g2',by omega,g5⟩)
   have HR:=Lib.hid (R4.out.on g7)
   have HB:=Lib.hid (chain B4.out g7 (Nat.le_refl _))
   clear g5 g6 g7 R4 B4 C1 C2 C3 HDY
   obtain ⟨u1,u2,u3,hN⟩:=M1.out
   obtain ⟨v1,v2,v3,hD⟩:=M2.out
   have ln:=RetLimbs.lim (w:=w) hN KN.out (by omega)
   have ld:=RetLimbs.lim (w:=w) hD KD.out (by omega)
   have HNN:=Lib.hid hN
   have HDD:=Lib.hid hD
   clear hN hD
   go_wp2_with fail
   refine (rtext_any _ _ _ _ _ HNN.out (by omega) u1).mono ?_;rintro e w6 ⟨rfl,hb6⟩
   have HR6:=Lib.hid (HR.out.on hb6)
   have HB6:=Lib.hid (chain HB.out hb6 (Nat.le_refl _))
   have hD6:=HDD.out.below hb6 (Nat.le_refl _)
   have HD6:=Lib.hid hD6
   have hsd:=hD6.shape d0
   clear hb6 hD6 HR HB HNN HDD
   have z6:=HR6.out.lt
   rcases hsd with ⟨rfl,hdl,bd,od,rfl,cd⟩|⟨hld,hd1⟩
   ·have zd:=block_lt_of_cell cd
    have cd2:=((Below.refl w6.heap.size w6).alloc (Nat.le_refl _) (.cells #[.bool neg,.string (bn N),.string ⟨#[]⟩] 71)).cell (p:=⟨bd,od,none⟩) zd
    by_cases hd1:D=1
    ·as_aux_lemma =>
     subst hd1
     have hT:=HT.out
     rw [if_pos rfl] at hT
     subst hT
     replace cd:w6.cell? ⟨bd,od,none⟩=some (.int .u32 1):=cd
     rw [cd] at cd2
     obtain ⟨a0,a1,a2,a3,a4,a5⟩:=HR6.out.get3
     go_wp2
     have q9:=below_set3 HB6.out (Nat.le_refl _) (.bool neg) (.string (bn N)) (.string ⟨#[]⟩)
     refine bodyPost_forget (fun W=>Blk W w.heap.size #[.bool neg,.string (bn N),.string ⟨#[]⟩]∧Below w.heap.size w W) ⟨by exact (Blk.set3 HR6.out _ _ _).alloc _,by exact q9.alloc q9.size _⟩ ?_
     rintro WR ⟨hr9,hb9⟩
     obtain ⟨y90,y91,y92,-,-,-⟩:=hr9.get3
     exact bodyPost_ret (v:=.agg #[.bool neg,.string (bn N),.string ⟨#[]⟩]) (by simp [results,Tryz.results146,go_sem,y90,y91,y92]) rfl ⟨rfl,hb9⟩
    ·as_aux_lemma =>
     have hT:=HT.out
     rw [if_neg hd1] at hT
     subst hT
     rw [cd] at cd2
     have hd2:(1:Int)<(D:Int):=by omega
     have hd3:(D:Int)≤4294967295:=by unfold LB at hdl;omega
     clear hd1
     go_wp2_with fail
     refine (rtext_any _ _ _ _ _ (HD6.out.below ((Below.refl w6.heap.size w6).alloc (Nat.le_refl _) _) (Nat.le_refl _)) (by omega) v1).mono ?_;rintro e w7 ⟨rfl,hb7⟩
     have R7:=Lib.hid ((HR6.out.alloc _).on hb7)
     have S7:=Lib.hid ((Blk.new w6 #[.bool neg,.string (bn N),.string ⟨#[]⟩] 71).on hb7)
     have B7:=Lib.hid (chain (HB6.out.alloc (by omega) _) hb7 (Nat.le_refl _))
     obtain ⟨a0,a1,a2,a3,a4,a5⟩:=R7.out.get3
     obtain ⟨b0,b1,b2,b3,b4,b5⟩:=S7.out.get3
     have hne:w6.heap.size≠w.heap.size:=by omega
     clear hb7
     go_wp2
     refine bodyPost_forget (fun W=>Blk W w.heap.size #[.bool neg,.string (bn N),.string (bn D)]∧Below w.heap.size w W) ⟨by exact Blk.set3 (R7.out.setOther _ _ (by exact hne.symm)) _ _ _,below_set3 (B7.out.setCell (by exact Nat.le_of_lt z6) _) (Nat.le_refl _) _ _ _⟩ ?_
     rintro WR ⟨hr9,hb9⟩
     obtain ⟨y90,y91,y92,-,-,-⟩:=hr9.get3
     exact bodyPost_ret (v:=.agg #[.bool neg,.string (bn N),.string (bn D)]) (by simp [results,Tryz.results146,go_sem,y90,y91,y92]) rfl ⟨rfl,hb9⟩
   ·as_aux_lemma =>
     have hd2:(1:Int)<(ldn:Int):=by omega
     have hT:=HT.out
     rw [if_neg (by omega)] at hT
     subst hT
     go_wp2_with fail
     refine (rtext_any _ _ _ _ _ (HD6.out.below ((Below.refl w6.heap.size w6).alloc (Nat.le_refl _) _) (Nat.le_refl _)) (by omega) v1).mono ?_;rintro e w7 ⟨rfl,hb7⟩
     have R7:=Lib.hid ((HR6.out.alloc _).on hb7)
     have S7:=Lib.hid ((Blk.new w6 #[.bool neg,.string (bn N),.string ⟨#[]⟩] 71).on hb7)
     have B7:=Lib.hid (chain (HB6.out.alloc (by omega) _) hb7 (Nat.le_refl _))
     obtain ⟨a0,a1,a2,a3,a4,a5⟩:=R7.out.get3
     obtain ⟨b0,b1,b2,b3,b4,b5⟩:=S7.out.get3
     have hne:w6.heap.size≠w.heap.size:=by omega
     clear hb7
     go_wp2
     refine bodyPost_forget (fun W=>Blk W w.heap.size #[.bool neg,.string (bn N),.string (bn D)]∧Below w.heap.size w W) ⟨by exact Blk.set3 (R7.out.setOther _ _ (by exact hne.symm)) _ _ _,below_set3 (B7.out.setCell (by exact Nat.le_of_lt z6) _) (Nat.le_refl _) _ _ _⟩ ?_
     rintro WR ⟨hr9,hb9⟩
     obtain ⟨y90,y91,y92,-,-,-⟩:=hr9.get3
     exact bodyPost_ret (v:=.agg #[.bool neg,.string (bn N),.string (bn D)]) (by simp [results,Tryz.results146,go_sem,y90,y91,y92]) rfl ⟨rfl,hb9⟩
theorem rreduced_any (neg:Bool) (ax ay:Option Addr) (lx ly cx cy x y k:Nat) (w:World) (h1:LimV w ax lx cx x) (h2:LimV w ay ly cy y) (hy:0<y) (kx:x<256 ^ k) (ky:y<256 ^ k) (hk:k≤1073741820) :
  Calls Tryz.prog 146 #[.bool neg,.slice ax lx cx,.slice ay ly cy] w fun e w'=>e = .returned (.agg #[.bool (rn (fr neg x y)),.string (rs (fr neg x y)),.string (rd (fr neg x y))])∧Below w.heap.size w w':=by
 rcases Nat.eq_zero_or_pos x with h|h
 ·have hl:=h1.2.2.2.zero_iff.mp h
  subst hl
  rw [h,fr_zero]
  exact rreduced_zero neg ax ay cx ly cy w
 ·exact rreduced_pos neg ax ay lx ly cx cy x y k w h1 h2 h hy kx ky hk
theorem keep6 {W W' : World} {b1 b2:Nat} {x1 x2 x3 y1 y2 y3:Value} (h1:Blk W b1 #[x1,x2,x3]) (h2:Blk W b2 #[y1,y2,y3]) (hb:Below W.heap.size W W') :
  W'.cell? ⟨b1,0,none⟩=some x1∧W'.cell? ⟨b1,1,none⟩=some x2∧W'.cell? ⟨b1,2,none⟩=some x3∧W'.cell? ⟨b2,0,none⟩=some y1∧W'.cell? ⟨b2,1,none⟩=some y2∧W'.cell? ⟨b2,2,none⟩=some y3 :=
 ⟨(h1.on hb).cell 0,(h1.on hb).cell 1,(h1.on hb).cell 2,(h2.on hb).cell 0,(h2.on hb).cell 1,(h2.on hb).cell 2⟩
structure TimC (p1:Bool) (p2 p3:ByteArray) (q1:Bool) (q2 q3:ByteArray) (x y d g k:Nat) (r1:Bool) (r2 r3:ByteArray):Prop where
 lp : ∀ w,Calls Tryz.prog 145 #[.string p2] w (RetLimbs w x)
 lq : ∀ w,Calls Tryz.prog 145 #[.string q2] w (RetLimbs w y)
 dp : ∀ w,Calls Tryz.prog 143 #[.agg #[.bool p1,.string p2,.string p3]] w (RetLimbs w d)
 dq : ∀ w,Calls Tryz.prog 143 #[.agg #[.bool q1,.string q2,.string q3]] w (RetLimbs w g)
 hx:x<256 ^ k
 hy:y<256 ^ k
 hd:d<256 ^ k
 hg:g<256 ^ k
 rd : ∀ w an ln cn ad ld cd,LimV w an ln cn (x*y)→LimV w ad ld cd (d*g)→Calls Tryz.prog 146 #[.bool (!(p1 == q1)),.slice an ln cn,.slice ad ld cd] w fun e w'=>e = .returned (.agg #[.bool r1,.string r2,.string r3])∧Below w.heap.size w w'
structure OvrC (p1:Bool) (p2 p3:ByteArray) (q1:Bool) (q2 q3:ByteArray) (x y d g k:Nat) (r1:Bool) (r2 r3:ByteArray):Prop where
 lp : ∀ w,Calls Tryz.prog 145 #[.string p2] w (RetLimbs w x)
 lq : ∀ w,Calls Tryz.prog 145 #[.string q2] w (RetLimbs w y)
 dp : ∀ w,Calls Tryz.prog 143 #[.agg #[.bool p1,.string p2,.string p3]] w (RetLimbs w d)
 dq : ∀ w,Calls Tryz.prog 143 #[.agg #[.bool q1,.string q2,.string q3]] w (RetLimbs w g)
 hx:x<256 ^ k
 hy:y<256 ^ k
 hd:d<256 ^ k
 hg:g<256 ^ k
 rd : ∀ w an ln cn ad ld cd,LimV w an ln cn (x*g)→LimV w ad ld cd (d*y)→Calls Tryz.prog 146 #[.bool (!(p1 == q1)),.slice an ln cn,.slice ad ld cd] w fun e w'=>e = .returned (.agg #[.bool r1,.string r2,.string r3])∧Below w.heap.size w w'
theorem rs_ne {q:Rat} (h:q≠0):(rs q).toList.isEmpty=false∧¬ (rs q).toList=[]:=bn_ne (Nat.pos_of_ne_zero fun e=>h (nm_zero.mp e))
structure PluC (p1:Bool) (p2 p3:ByteArray) (q1:Bool) (q2 q3:ByteArray) (x y d g k:Nat) (r1:Bool) (r2 r3:ByteArray):Prop where
 lp : ∀ w,Calls Tryz.prog 145 #[.string p2] w (RetLimbs w x)
 lq : ∀ w,Calls Tryz.prog 145 #[.string q2] w (RetLimbs w y)
 dp : ∀ w,Calls Tryz.prog 143 #[.agg #[.bool p1,.string p2,.string p3]] w (RetLimbs w d)
 dq : ∀ w,Calls Tryz.prog 143 #[.agg #[.bool q1,.string q2,.string q3]] w (RetLimbs w g)
 hx:x<256 ^ k
 hy:y<256 ^ k
 hd:d<256 ^ k
 hg:g<256 ^ k
 same:p1=q1→∀ w an ln cn ad ld cd,LimV w an ln cn (x*g+y*d)→LimV w ad ld cd (d*g)→Calls Tryz.prog 146 #[.bool p1,.slice an ln cn,.slice ad ld cd] w fun e w'=>e = .returned (.agg #[.bool r1,.string r2,.string r3])∧Below w.heap.size w w'
 less:p1≠q1→x*g<y*d→∀ w an ln cn ad ld cd,LimV w an ln cn (y*d - x*g)→LimV w ad ld cd (d*g)→Calls Tryz.prog 146 #[.bool q1,.slice an ln cn,.slice ad ld cd] w fun e w'=>e = .returned (.agg #[.bool r1,.string r2,.string r3])∧Below w.heap.size w w'
 more:p1≠q1→y*d≤x*g→∀ w an ln cn ad ld cd,LimV w an ln cn (x*g - y*d)→LimV w ad ld cd (d*g)→Calls Tryz.prog 146 #[.bool p1,.slice an ln cn,.slice ad ld cd] w fun e w'=>e = .returned (.agg #[.bool r1,.string r2,.string r3])∧Below w.heap.size w w'
theorem pluC_of (p q:Rat) (k:Nat) (hp:Sm k p) (hq:Sm k q) (hk:k≤268435456) :
  PluC (rn p) (rs p) (rd p) (rn q) (rs q) (rd q) (nm p) (nm q) p.den q.den k (rn (p+q)) (rs (p+q)) (rd (p+q)):=by
 have hdg:0<p.den*q.den:=Nat.mul_pos p.den_pos q.den_pos
 have kxg:=pow_mul_lt hp.1 hq.2
 have kyd:=pow_mul_lt hq.1 hp.2
 have kdg:=pow_mul_lt hp.2 hq.2
 have e1:(256:Nat) ^ (k+k+1)=256*256 ^ (k+k):=by rw [Nat.pow_succ,Nat.mul_comm]
 refine ⟨fun w=>?_,fun w=>?_,fun w=>rden_any p k w hp.2 hk,fun w=>rden_any q k w hq.2 hk,hp.1,hq.1,hp.2,hq.2,fun he w an ln cn ad ld cd h1 h2=>?_,fun he hl w an ln cn ad ld cd h1 h2=>?_,fun he hl w an ln cn ad ld cd h1 h2=>?_⟩
 ·have:=rlimbs_any (rs p) w (by have:=hp.rs;omega)
  rw [nm_rs] at this;exact this
 ·have:=rlimbs_any (rs q) w (by have:=hq.rs;omega)
  rw [nm_rs] at this;exact this
 ·rw [show p+q=fr (rn p) (nm p*q.den+nm q*p.den) (p.den*q.den) by rw [fr_add,← he,sgn_add_same];rfl]
  exact rreduced_any _ an ad ln ld cn cd _ _ (k+k+1) w h1 h2 hdg (by omega) (by omega) (by omega)
 ·rw [show p+q=fr (rn q) (nm q*p.den - nm p*q.den) (p.den*q.den) by rw [fr_add,Int.add_comm,sgn_add_diff (Ne.symm he) (by omega)];rfl]
  exact rreduced_any _ an ad ln ld cn cd _ _ (k+k+1) w h1 h2 hdg (by omega) (by omega) (by omega)
 ·rw [show p+q=fr (rn p) (nm p*q.den - nm q*p.den) (p.den*q.den) by rw [fr_add,sgn_add_diff he hl];rfl]
  exact rreduced_any _ an ad ln ld cn cd _ _ (k+k+1) w h1 h2 hdg (by omega) (by omega) (by omega)
theorem keep2 {W W' : World} {b1 b2:Nat} {x1 x2 x3 y1 y2 y3:Value} (h1:Blk W b1 #[x1,x2,x3]) (h2:Blk W b2 #[y1,y2,y3]) (hb:Below W.heap.size W W') :
  W'.cell? ⟨b1,0,none⟩=some x1∧W'.cell? ⟨b2,0,none⟩=some y1:=⟨(h1.on hb).cell 0,(h2.on hb).cell 0⟩
set_option maxRecDepth 100000 in
theorem plus_pos (p1:Bool) (p2 p3:ByteArray) (q1:Bool) (q2 q3:ByteArray) (x y d g k:Nat) (r1:Bool) (r2 r3:ByteArray) (hC:PluC p1 p2 p3 q1 q2 q3 x y d g k r1 r2 r3) (hk:k≤268435456)
  (hp:p2.toList.isEmpty=false) (hp' : ¬ p2.toList=[]) (hq:q2.toList.isEmpty=false) (hq' : ¬ q2.toList=[]) (w:World) :
  Calls Tryz.prog 94 #[.agg #[.bool p1,.string p2,.string p3],.agg #[.bool q1,.string q2,.string q3]] w fun e w'=>e = .returned (.agg #[.bool r1,.string r2,.string r3])∧Below w.heap.size w w':=by
 have HC:=Lib.hid hC
 have kxg:=pow_mul_lt hC.hx hC.hg
 have kyd:=pow_mul_lt hC.hy hC.hd
 have kdg:=pow_mul_lt hC.hd hC.hg
 have e1:(256:Nat) ^ (k+k+1)=256*256 ^ (k+k):=by rw [Nat.pow_succ,Nat.mul_comm]
 have KXG:=Lib.hid kxg
 have KYD:=Lib.hid kyd
 have KDG:=Lib.hid kdg
 have KSUM:Hid (x*g+y*d<256 ^ (k+k+1)):=by show _<_;omega
 have KL:Hid (y*d - x*g<256 ^ (k+k+1)):=by show _<_;omega
 have KM:Hid (x*g - y*d<256 ^ (k+k+1)):=by show _<_;omega
 clear hC kxg kyd kdg e1
 go_enter Tryz.func94,Tryz.ntmps94
 go_wp2_with fail
 refine (HC.out.dp _).mono ?_;rintro e w1 ⟨a1x,l1x,c1x,rfl,u1,u2,c3,c4⟩
 have l1:=RetLimbs.lim (w:=w) c3 HC.out.hd (by omega)
 have D1:=Lib.hid c3
 obtain ⟨H1,H2,H3,HB⟩:=boxes3 c4
 have J1:=Lib.hid H1
 have J2:=Lib.hid H2
 have J3:=Lib.hid H3
 have JB:=Lib.hid HB
 obtain ⟨a0,a1,a2,a3,a4,a5⟩:=keep6 H1 H2 (Below.refl _ _)
 clear H1 H2 H3 HB c3 c4 hp hp' hq hq'
 go_wp2_with fail
 refine (HC.out.dq _).mono ?_;rintro e w2 ⟨a2x,l2x,c2x,rfl,u3,u4,c3,c4⟩
 have l2:=RetLimbs.lim (w:=w) c3 HC.out.hg (by omega)
 have G2:=Lib.hid c3
 have D2:=Lib.hid (D1.out.below c4 (Nat.le_refl _))
 have HB2:=Lib.hid c4
 clear c3 c4 a0 a1 a2 a3 a4 a5
 obtain ⟨a0,a1,a2,a3,a4,a5⟩:=keep6 J1.out J2.out HB2.out
 go_wp2_with fail
 refine (HC.out.lp _).mono ?_;rintro e w3 ⟨a3x,l3x,c3x,rfl,u5,u6,c3,c4⟩
 have l3:=RetLimbs.lim (w:=w) c3 HC.out.hx (by omega)
 have X3:=Lib.hid c3
 have G3:=Lib.hid (G2.out.below c4 (Nat.le_refl _))
 have D3:=Lib.hid (D2.out.below c4 (Nat.le_refl _))
 have HB3:=Lib.hid (chain HB2.out c4 (Nat.le_refl _))
 clear c3 c4 a0 a1 a2 a3 a4 a5 D1 D2 G2 HB2
 go_wp2_with fail
 refine (times_any _ _ _ _ _ _ _ _ _ X3.out G3.out (by omega) (by omega)).mono ?_;rintro e w4 ⟨a4x,l4x,c4x,rfl,u7,u8,c3,c4⟩
 have l4:=RetLimbs.lim (w:=w) c3 KXG.out (by omega)
 have N4:=Lib.hid c3
 have G4:=Lib.hid (G3.out.below c4 (Nat.le_refl _))
 have D4:=Lib.hid (D3.out.below c4 (Nat.le_refl _))
 have HB4:=Lib.hid (chain HB3.out c4 (Nat.le_refl _))
 clear c3 c4 D3 G3 X3 HB3
 obtain ⟨a0,a1,a2,a3,a4,a5⟩:=keep6 J1.out J2.out HB4.out
 go_wp2_with fail
 refine (HC.out.lq _).mono ?_;rintro e w5 ⟨a5x,l5x,c5x,rfl,u9,u10,c3,c4⟩
 have l5:=RetLimbs.lim (w:=w) c3 HC.out.hy (by omega)
 have Y5:=Lib.hid c3
 have N5:=Lib.hid (N4.out.below c4 (Nat.le_refl _))
 have G5:=Lib.hid (G4.out.below c4 (Nat.le_refl _))
 have D5:=Lib.hid (D4.out.below c4 (Nat.le_refl _))
 have HB5:=Lib.hid (chain HB4.out c4 (Nat.le_refl _))
 clear c3 c4 a0 a1 a2 a3 a4 a5 D4 G4 N4 HB4
 go_wp2_with fail
 refine (times_any _ _ _ _ _ _ _ _ _ Y5.out D5.out (by omega) (by omega)).mono ?_;rintro e w6 ⟨a6x,l6x,c6x,rfl,u11,u12,c3,c4⟩
 have l6:=RetLimbs.lim (w:=w) c3 KYD.out (by omega)
 have M6:=Lib.hid c3
 have N6:=Lib.hid (N5.out.below c4 (Nat.le_refl _))
 have G6:=Lib.hid (G5.out.below c4 (Nat.le_refl _))
 have D6:=Lib.hid (D5.out.below c4 (Nat.le_refl _))
 have HB6:=Lib.hid (chain HB5.out c4 (Nat.le_refl _))
 clear c3 c4 D5 G5 N5 Y5 HB5
 go_wp2_with fail
 refine (times_any _ _ _ _ _ _ _ _ _ D6.out G6.out (by omega) (by omega)).mono ?_;rintro e w7 ⟨a7x,l7x,c7x,rfl,u13,u14,c3,c4⟩
 have l7:=RetLimbs.lim (w:=w) c3 KDG.out (by omega)
 have Q7:=Lib.hid c3
 have M7:=Lib.hid (M6.out.below c4 (Nat.le_refl _))
 have N7:=Lib.hid (N6.out.below c4 (Nat.le_refl _))
 have HB7:=Lib.hid (chain HB6.out c4 (Nat.le_refl _))
 clear c3 c4 D6 G6 N6 M6 HB6
 obtain ⟨a0,a1⟩:=keep2 J1.out J2.out HB7.out
 by_cases he:p1=q1
 ·as_aux_lemma =>
  have HS:=Lib.hid (HC.out.same he)
  have RL:=Lib.hid (fun w (h1:Limbs w a4x l4x (x*g)) (h2:Limbs w a6x l6x (y*d))=>plus_any a4x a6x l4x l6x c4x c6x (x*g) (y*d) w h1 h2 (by omega) (by omega))
  subst he
  go_wp2_with fail
  go_region_held3 (fun w'=>w'.cell? ⟨w.heap.size,0,none⟩=some (.bool p1)∧w'.cell? ⟨w.heap.size+1,0,none⟩=some (.bool p1))
   (first|exact keep2 (Blk.set3Other (J1.out.on (chain HB7.out.drew HB9.out (Nat.le_refl _))) (by omega) _ _ _) (Blk.set3Other (J2.out.on (chain HB7.out.drew HB9.out (Nat.le_refl _))) (by omega) _ _ _) (Below.refl _ _)|exact keep2 J1.out J2.out (chain HB7.out.drew HB9.out (Nat.le_refl _))|exact keep2 J1.out J2.out (chain HB7.out.drew HB8.out (Nat.le_refl _))|exact ⟨a0,a1⟩|go_keep)
   (first
    | (go_at_call 147;refine (RL.out _ (N7.out.below (Below.refl _ _).drew (Nat.le_refl _)) (M7.out.below (Below.refl _ _).drew (Nat.le_refl _))).mono ?_;rintro e w8 ⟨a8x,l8x,c8x,rfl,u15,u16,c3,c4⟩;have l8:=RetLimbs.lim (w:=w) c3 KSUM.out (by omega);have S8:=Lib.hid c3;have Q8:=Lib.hid ((Q7.out.below (Below.refl _ _).drew (Nat.le_refl _)).below c4 (Nat.le_refl _));have HB8:=Lib.hid c4;clear c3 c4)
    | (go_at_call 146;refine (HS.out _ _ _ _ _ _ _ ⟨u15,u16,by omega,S8.out⟩ ⟨u13,u14,by omega,Q8.out⟩).mono ?_;rintro e w9 ⟨rfl,c4⟩;have HB9:=Lib.hid (chain HB8.out c4 (Nat.le_refl _));clear c4;obtain ⟨z0,z1,z2,z3,z4,z5⟩:=(J3.out.on (chain HB7.out.drew HB9.out (Nat.le_refl _))).get3))
  have HB:=Lib.hid (chain JB.out (chain HB7.out.drew HB9.out (Nat.le_refl _)) (Nat.le_refl _))
  have H2:=Lib.hid (J3.out.on (chain HB7.out.drew HB9.out (Nat.le_refl _)))
  go_wp2
  refine bodyPost_forget (fun W=>Blk W (w.heap.size+1+1) #[.bool r1,.string r2,.string r3]∧Below w.heap.size w W) ⟨by exact Blk.set3 H2.out _ _ _,below_set3 HB.out (by omega) _ _ _⟩ ?_
  rintro WR ⟨hr9,hb9⟩
  obtain ⟨y90,y91,y92,-,-,-⟩:=hr9.get3
  exact bodyPost_ret (v:=.agg #[.bool r1,.string r2,.string r3]) (by simp [results,Tryz.results94,go_sem,y90,y91,y92]) rfl ⟨rfl,hb9⟩
 ·as_aux_lemma =>
  have he2:(p1 == q1)=false:=by simp [he]
  go_wp2_with fail
  refine (order_any _ _ _ _ _ _ _ _ _ N7.out M7.out (by omega) (by omega)).mono ?_;rintro e w10 ⟨rfl,c4⟩
  have N10:=Lib.hid (N7.out.below c4 (Nat.le_refl _))
  have M10:=Lib.hid (M7.out.below c4 (Nat.le_refl _))
  have Q10:=Lib.hid (Q7.out.below c4 (Nat.le_refl _))
  have HB10:=Lib.hid (chain HB7.out c4 (Nat.le_refl _))
  clear c4 N7 M7 Q7 HB7 a0 a1
  obtain ⟨a0,a1⟩:=keep2 J1.out J2.out HB10.out
  by_cases hl:x*g<y*d
  ·as_aux_lemma =>
   have HS:=Lib.hid (HC.out.less he hl)
   have RL:=Lib.hid (fun w (h1:Limbs w a6x l6x (y*d)) (h2:Limbs w a4x l4x (x*g))=>minus_any a6x a4x l6x l4x c6x c4x (y*d) (x*g) w h1 h2 (by omega) (by omega))
   have hcm:decide (cmpN (x*g) (y*d)<0)=true:=by rw [cmpN_lt hl];rfl
   clear hl he
   go_wp2_with fail
   go_region_held3 (fun w'=>w'.cell? ⟨w.heap.size,0,none⟩=some (.bool p1)∧w'.cell? ⟨w.heap.size+1,0,none⟩=some (.bool q1))
    (first|exact keep2 (Blk.set3Other (J1.out.on (chain HB10.out.drew HB9.out (Nat.le_refl _))) (by omega) _ _ _) (Blk.set3Other (J2.out.on (chain HB10.out.drew HB9.out (Nat.le_refl _))) (by omega) _ _ _) (Below.refl _ _)|exact keep2 J1.out J2.out (chain HB10.out.drew HB9.out (Nat.le_refl _))|exact keep2 J1.out J2.out (chain HB10.out.drew HB8.out (Nat.le_refl _))|exact ⟨a0,a1⟩|go_keep)
    (first
     | (go_at_call 149;refine (RL.out _ (M10.out.below (Below.refl _ _).drew (Nat.le_refl _)) (N10.out.below (Below.refl _ _).drew (Nat.le_refl _))).mono ?_;rintro e w8 ⟨a8x,l8x,c8x,rfl,u15,u16,c3,c4⟩;have l8:=RetLimbs.lim (w:=w) c3 KL.out (by omega);have S8:=Lib.hid c3;have Q8:=Lib.hid ((Q10.out.below (Below.refl _ _).drew (Nat.le_refl _)).below c4 (Nat.le_refl _));have HB8:=Lib.hid c4;clear c3 c4)
     | (go_at_call 146;refine (HS.out _ _ _ _ _ _ _ ⟨u15,u16,by omega,S8.out⟩ ⟨u13,u14,by omega,Q8.out⟩).mono ?_;rintro e w9 ⟨rfl,c4⟩;have HB9:=Lib.hid (chain HB8.out c4 (Nat.le_refl _));clear c4;obtain ⟨z0,z1,z2,z3,z4,z5⟩:=(J3.out.on (chain HB10.out.drew HB9.out (Nat.le_refl _))).get3))
   have HB:=Lib.hid (chain JB.out (chain HB10.out.drew HB9.out (Nat.le_refl _)) (Nat.le_refl _))
   have H2:=Lib.hid (J3.out.on (chain HB10.out.drew HB9.out (Nat.le_refl _)))
   go_wp2
   refine bodyPost_forget (fun W=>Blk W (w.heap.size+1+1) #[.bool r1,.string r2,.string r3]∧Below w.heap.size w W) ⟨by exact Blk.set3 H2.out _ _ _,below_set3 HB.out (by omega) _ _ _⟩ ?_
   rintro WR ⟨hr9,hb9⟩
   obtain ⟨y90,y91,y92,-,-,-⟩:=hr9.get3
   exact bodyPost_ret (v:=.agg #[.bool r1,.string r2,.string r3]) (by simp [results,Tryz.results94,go_sem,y90,y91,y92]) rfl ⟨rfl,hb9⟩
  ·as_aux_lemma =>
   have HS:=Lib.hid (HC.out.more he (by omega))
   have RL:=Lib.hid (fun w (h1:Limbs w a4x l4x (x*g)) (h2:Limbs w a6x l6x (y*d))=>minus_any a4x a6x l4x l6x c4x c6x (x*g) (y*d) w h1 h2 (by omega) (by omega))
   have hcm:decide (cmpN (x*g) (y*d)<0)=false:=by unfold cmpN;rw [if_neg hl];split <;> rfl
   clear hl he
   go_wp2_with fail
   go_region_held3 (fun w'=>w'.cell? ⟨w.heap.size,0,none⟩=some (.bool p1)∧w'.cell? ⟨w.heap.size+1,0,none⟩=some (.bool q1))
    (first|exact keep2 (Blk.set3Other (J1.out.on (chain HB10.out.drew HB9.out (Nat.le_refl _))) (by omega) _ _ _) (Blk.set3Other (J2.out.on (chain HB10.out.drew HB9.out (Nat.le_refl _))) (by omega) _ _ _) (Below.refl _ _)|exact keep2 J1.out J2.out (chain HB10.out.drew HB9.out (Nat.le_refl _))|exact keep2 J1.out J2.out (chain HB10.out.drew HB8.out (Nat.le_refl _))|exact ⟨a0,a1⟩|go_keep)
    (first
     | (go_at_call 149;refine (RL.out _ (N10.out.below (Below.refl _ _).drew (Nat.le_refl _)) (M10.out.below (Below.refl _ _).drew (Nat.le_refl _))).mono ?_;rintro e w8 ⟨a8x,l8x,c8x,rfl,u15,u16,c3,c4⟩;have l8:=RetLimbs.lim (w:=w) c3 KM.out (by omega);have S8:=Lib.hid c3;have Q8:=Lib.hid ((Q10.out.below (Below.refl _ _).drew (Nat.le_refl _)).below c4 (Nat.le_refl _));have HB8:=Lib.hid c4;clear c3 c4)
     | (go_at_call 146;refine (HS.out _ _ _ _ _ _ _ ⟨u15,u16,by omega,S8.out⟩ ⟨u13,u14,by omega,Q8.out⟩).mono ?_;rintro e w9 ⟨rfl,c4⟩;have HB9:=Lib.hid (chain HB8.out c4 (Nat.le_refl _));clear c4;obtain ⟨z0,z1,z2,z3,z4,z5⟩:=(J3.out.on (chain HB10.out.drew HB9.out (Nat.le_refl _))).get3))
   have HB:=Lib.hid (chain JB.out (chain HB10.out.drew HB9.out (Nat.le_refl _)) (Nat.le_refl _))
   have H2:=Lib.hid (J3.out.on (chain HB10.out.drew HB9.out (Nat.le_refl _)))
   go_wp2
   refine bodyPost_forget (fun W=>Blk W (w.heap.size+1+1) #[.bool r1,.string r2,.string r3]∧Below w.heap.size w W) ⟨by exact Blk.set3 H2.out _ _ _,below_set3 HB.out (by omega) _ _ _⟩ ?_
   rintro WR ⟨hr9,hb9⟩
   obtain ⟨y90,y91,y92,-,-,-⟩:=hr9.get3
   exact bodyPost_ret (v:=.agg #[.bool r1,.string r2,.string r3]) (by simp [results,Tryz.results94,go_sem,y90,y91,y92]) rfl ⟨rfl,hb9⟩
end Go.Proofs.Ins
