/- The walks of insolvencyref1: Sign, Compare, Min, Max, Multiply, Divide, Make, Int, Fraction. -/
import Derived.Test.YtiaefgffeekfkaaGreatDoorZ10
set_option linter.unusedSimpArgs false
set_option linter.unusedVariables false
set_option maxHeartbeats 8000000
namespace Go.Proofs.Ins
open Go.RowKit
set_option maxRecDepth 100000 in
theorem rvalid_1 (n:Bool) (s d:ByteArray) (w:World) (hs:s.size≤268435456) (h : ¬ bn (nv s)=s) :
  Calls Tryz.prog 74 #[.agg #[.bool n,.string s,.string d]] w fun e w'=>e = .returned (.bool false)∧Below w.heap.size w w':=by
 have hN : ∀ w,Calls Tryz.prog 123 #[.string s] w fun e w'=>e = .returned (.string (bn (nv s)))∧w=w':=fun w=>rNormalize_any s w (by omega)
 generalize bn (nv s)=t at *
 have h1:=str_ne h
 have HN:=Lib.hid hN
 clear hN h
 go_enter Tryz.func74,Tryz.ntmps74
 go_wp2
 refine wp_forget (fun W=>RatAt W w.heap.size 0 n s d∧Below w.heap.size w W) ⟨⟨by simp [go_sem],by simp [go_sem],by simp [go_sem]⟩,(Below.refl _ _).alloc (Nat.le_refl _) _⟩ ?_
 rintro W ⟨⟨c0,c1,c2⟩,hb⟩
 have k0:=cell_regrown c0
 have k1:=cell_regrown c1
 have k2:=cell_regrown c2
 refine wp_region_qb (by kernel_rfl) (by kernel_rfl) ?_
 repeat (first | go_big_quiet_skip | quiet_step (first | with_reducible exact Calls.later_same (HN.out _)))
 refine wpQuiet_nil ?_
 intro W1 hb1
 go_wp2
 go_ret
 exact ⟨rfl,hb.trans (hb1.mono hb.size)⟩
set_option maxRecDepth 100000 in
theorem rvalid_2 (n:Bool) (s d:ByteArray) (w:World) (hs:s.size≤268435456) (hd:d.size≤268435456) (h0:bn (nv s)=s) (h : ¬ bn (nv d)=d) :
  Calls Tryz.prog 74 #[.agg #[.bool n,.string s,.string d]] w fun e w'=>e = .returned (.bool false)∧Below w.heap.size w w':=by
 have hM : ∀ w,Calls Tryz.prog 123 #[.string s] w fun e w'=>e = .returned (.string s)∧w=w':=fun w=>by
  have:=rNormalize_any s w (by omega); rw [h0] at this; exact this
 have hN : ∀ w,Calls Tryz.prog 123 #[.string d] w fun e w'=>e = .returned (.string (bn (nv d)))∧w=w':=fun w=>rNormalize_any d w (by omega)
 generalize bn (nv d)=t at *
 have h1:=str_ne h
 have HN:=Lib.hid hN
 have HM:=Lib.hid hM
 clear hN hM h h0
 go_enter Tryz.func74,Tryz.ntmps74
 go_wp2
 refine wp_forget (fun W=>RatAt W w.heap.size 0 n s d∧Below w.heap.size w W) ⟨⟨by simp [go_sem],by simp [go_sem],by simp [go_sem]⟩,(Below.refl _ _).alloc (Nat.le_refl _) _⟩ ?_
 rintro W ⟨⟨c0,c1,c2⟩,hb⟩
 have k0:=cell_regrown c0
 have k1:=cell_regrown c1
 have k2:=cell_regrown c2
 refine wp_region_qb (by kernel_rfl) (by kernel_rfl) ?_
 repeat (first | go_big_quiet_skip | quiet_step (first | with_reducible exact Calls.later_same (HM.out _) | with_reducible exact Calls.later_same (HN.out _)))
 refine wpQuiet_nil ?_
 intro W1 hb1
 go_wp2
 go_ret
 exact ⟨rfl,hb.trans (hb1.mono hb.size)⟩
set_option maxRecDepth 100000 in
theorem rvalid_3 (n:Bool) (d:ByteArray) (w:World) (hd:d.size≤268435456) (h:bn (nv d)=d) (hd2:d≠⟨#[1]⟩) :
  Calls Tryz.prog 74 #[.agg #[.bool n,.string ⟨#[]⟩,.string d]] w fun e w'=>e = .returned (.bool (!n && decide (d.size=0)))∧Below w.heap.size w w':=by
 have hM : ∀ w,Calls Tryz.prog 123 #[.string ⟨#[]⟩] w fun e w'=>e = .returned (.string ⟨#[]⟩)∧w=w':=fun w=>rNormalize_any ⟨#[]⟩ w (by decide)
 have hN : ∀ w,Calls Tryz.prog 123 #[.string d] w fun e w'=>e = .returned (.string d)∧w=w':=fun w=>by
  have:=rNormalize_any d w (by omega); rw [h] at this; exact this
 have HN:=Lib.hid hN
 have HM:=Lib.hid hM
 have h5:=str_ne_one hd2
 clear hN hM h hd2
 by_cases h0:d.size=0
 ·obtain rfl:=toList_of_empty h0
  have e1:(!n && decide ((⟨#[]⟩:ByteArray).size=0)) = !n:=by cases n <;> rfl
  rw [e1]
  clear h0 hd e1 h5
  cases n
  all_goals
   go_enter Tryz.func74,Tryz.ntmps74
   go_wp2
   refine wp_forget (fun W=>RatAt W w.heap.size 0 _ ⟨#[]⟩ ⟨#[]⟩∧Below w.heap.size w W) ⟨⟨by simp [go_sem]; rfl,by simp [go_sem],by simp [go_sem]⟩,(Below.refl _ _).alloc (Nat.le_refl _) _⟩ ?_
   rintro W ⟨⟨c0,c1,c2⟩,hb⟩
   have k0:=cell_regrown c0
   have k1:=cell_regrown c1
   have k2:=cell_regrown c2
   refine wp_region_qb (by kernel_rfl) (by kernel_rfl) ?_
   repeat (first | go_big_quiet_skip | quiet_step (first | with_reducible exact Calls.later_same (HM.out _)))
   refine wpQuiet_nil ?_
   intro W1 hb1
   have hlt:=block_lt_of_cell c0
   have g0:=(hb1.cell hlt).trans c0
   have g1:=(hb1.cell (p:=⟨w.heap.size,0+1,none⟩) hlt).trans c1
   have g2:=(hb1.cell (p:=⟨w.heap.size,0+2,none⟩) hlt).trans c2
   go_wp2
   go_ret
   exact ⟨rfl,hb.trans (hb1.mono hb.size)⟩
 ·obtain ⟨h1,h2⟩:=toList_of_pos h0
  have e1:(!n && decide (d.size=0))=false:=by rw [decide_eq_false h0]; cases n <;> rfl
  rw [e1]
  clear h0 hd e1
  cases n
  all_goals
   go_enter Tryz.func74,Tryz.ntmps74
   go_wp2
   refine wp_forget (fun W=>RatAt W w.heap.size 0 _ ⟨#[]⟩ d∧Below w.heap.size w W) ⟨⟨by simp [go_sem]; rfl,by simp [go_sem],by simp [go_sem]⟩,(Below.refl _ _).alloc (Nat.le_refl _) _⟩ ?_
   rintro W ⟨⟨c0,c1,c2⟩,hb⟩
   have k0:=cell_regrown c0
   have k1:=cell_regrown c1
   have k2:=cell_regrown c2
   refine wp_region_qb (by kernel_rfl) (by kernel_rfl) ?_
   repeat (first | go_big_quiet_skip | quiet_step (first | with_reducible exact Calls.later_same (HM.out _) | with_reducible exact Calls.later_same (HN.out _)))
   refine wpQuiet_nil ?_
   intro W1 hb1
   have hlt:=block_lt_of_cell c0
   have g0:=(hb1.cell hlt).trans c0
   have g1:=(hb1.cell (p:=⟨w.heap.size,0+1,none⟩) hlt).trans c1
   have g2:=(hb1.cell (p:=⟨w.heap.size,0+2,none⟩) hlt).trans c2
   go_wp2
   go_ret
   exact ⟨rfl,hb.trans (hb1.mono hb.size)⟩
set_option maxRecDepth 100000 in
theorem rvalid_4 (n:Bool) (s:ByteArray) (w:World) (hs:s.size≤268435456) (h:bn (nv s)=s) (h0 : ¬ s.size=0) :
  Calls Tryz.prog 74 #[.agg #[.bool n,.string s,.string ⟨#[]⟩]] w fun e w'=>e = .returned (.bool true)∧Below w.heap.size w w':=by
 have hM : ∀ w,Calls Tryz.prog 123 #[.string ⟨#[]⟩] w fun e w'=>e = .returned (.string ⟨#[]⟩)∧w=w':=fun w=>rNormalize_any ⟨#[]⟩ w (by decide)
 have hN : ∀ w,Calls Tryz.prog 123 #[.string s] w fun e w'=>e = .returned (.string s)∧w=w':=fun w=>by
  have:=rNormalize_any s w (by omega); rw [h] at this; exact this
 have HN:=Lib.hid hN
 have HM:=Lib.hid hM
 obtain ⟨h1,h2⟩:=toList_of_pos h0
 clear hN hM h h0
 go_enter Tryz.func74,Tryz.ntmps74
 go_wp2
 refine wp_forget (fun W=>RatAt W w.heap.size 0 n s ⟨#[]⟩∧Below w.heap.size w W) ⟨⟨by simp [go_sem],by simp [go_sem],by simp [go_sem]⟩,(Below.refl _ _).alloc (Nat.le_refl _) _⟩ ?_
 rintro W ⟨⟨c0,c1,c2⟩,hb⟩
 have k0:=cell_regrown c0
 have k1:=cell_regrown c1
 have k2:=cell_regrown c2
 refine wp_region_qb (by kernel_rfl) (by kernel_rfl) ?_
 repeat (first | go_big_quiet_skip | quiet_step (first | with_reducible exact Calls.later_same (HM.out _) | with_reducible exact Calls.later_same (HN.out _)))
 refine wpQuiet_nil ?_
 intro W1 hb1
 have hlt:=block_lt_of_cell c0
 have g0:=(hb1.cell hlt).trans c0
 have g1:=(hb1.cell (p:=⟨w.heap.size,0+1,none⟩) hlt).trans c1
 have g2:=(hb1.cell (p:=⟨w.heap.size,0+2,none⟩) hlt).trans c2
 go_wp2
 go_ret
 exact ⟨rfl,hb.trans (hb1.mono hb.size)⟩
set_option maxRecDepth 100000 in
theorem rvalid_5 (n:Bool) (s:ByteArray) (w:World) (hs:s.size≤268435456) (h:bn (nv s)=s) :
  Calls Tryz.prog 74 #[.agg #[.bool n,.string s,.string ⟨#[1]⟩]] w fun e w'=>e = .returned (.bool false)∧Below w.heap.size w w':=by
 have hM : ∀ w,Calls Tryz.prog 123 #[.string ⟨#[1]⟩] w fun e w'=>e = .returned (.string ⟨#[1]⟩)∧w=w':=fun w=>by
  have:=rNormalize_any ⟨#[1]⟩ w (by decide); rw [show nv ⟨#[1]⟩=1 by decide,bn_one] at this; exact this
 have hN : ∀ w,Calls Tryz.prog 123 #[.string s] w fun e w'=>e = .returned (.string s)∧w=w':=fun w=>by
  have:=rNormalize_any s w (by omega); rw [h] at this; exact this
 have HN:=Lib.hid hN
 have HM:=Lib.hid hM
 clear hN hM h
 go_enter Tryz.func74,Tryz.ntmps74
 go_wp2
 refine wp_forget (fun W=>RatAt W w.heap.size 0 n s ⟨#[1]⟩∧Below w.heap.size w W) ⟨⟨by simp [go_sem],by simp [go_sem],by simp [go_sem]⟩,(Below.refl _ _).alloc (Nat.le_refl _) _⟩ ?_
 rintro W ⟨⟨c0,c1,c2⟩,hb⟩
 have k0:=cell_regrown c0
 have k1:=cell_regrown c1
 have k2:=cell_regrown c2
 refine wp_region_qb (by kernel_rfl) (by kernel_rfl) ?_
 repeat (first | go_big_quiet_skip | quiet_step (first | with_reducible exact Calls.later_same (HM.out _) | with_reducible exact Calls.later_same (HN.out _)))
 refine wpQuiet_nil ?_
 intro W1 hb1
 have hlt:=block_lt_of_cell c0
 have g0:=(hb1.cell hlt).trans c0
 have g1:=(hb1.cell (p:=⟨w.heap.size,0+1,none⟩) hlt).trans c1
 have g2:=(hb1.cell (p:=⟨w.heap.size,0+2,none⟩) hlt).trans c2
 go_wp2
 go_ret
 exact ⟨rfl,hb.trans (hb1.mono hb.size)⟩
set_option maxRecDepth 100000 in
theorem rvalid_6 (n:Bool) (s d:ByteArray) (w:World) (hs:s.size≤268435456) (hd:d.size≤268435456) (h:bn (nv s)=s) (h0 : ¬ s.size=0) (hd1:bn (nv d)=d) (hd0 : ¬ d.size=0) (hd2:d≠⟨#[1]⟩) :
  Calls Tryz.prog 74 #[.agg #[.bool n,.string s,.string d]] w fun e w'=>e = .returned (.bool (decide (Nat.gcd (nv s) (nv d)=1)))∧Below w.heap.size w w':=by
 have hM : ∀ w,Calls Tryz.prog 123 #[.string d] w fun e w'=>e = .returned (.string d)∧w=w':=fun w=>by
  have:=rNormalize_any d w (by omega); rw [hd1] at this; exact this
 have hN : ∀ w,Calls Tryz.prog 123 #[.string s] w fun e w'=>e = .returned (.string s)∧w=w':=fun w=>by
  have:=rNormalize_any s w (by omega); rw [h] at this; exact this
 have HN:=Lib.hid hN
 have HM:=Lib.hid hM
 obtain ⟨h1,h2⟩:=toList_of_pos h0
 obtain ⟨h3,h4⟩:=toList_of_pos hd0
 have h5:=str_ne_one hd2
 have HE:=Lib.hid (eq_one_iff (Nat.gcd (nv s) (nv d)))
 clear hN hM h h0 hd0 hd1 hd2
 go_enter Tryz.func74,Tryz.ntmps74
 go_wp2
 refine wp_forget (fun W=>RatAt W w.heap.size 0 n s d∧Below w.heap.size w W) ⟨⟨by simp [go_sem],by simp [go_sem],by simp [go_sem]⟩,(Below.refl _ _).alloc (Nat.le_refl _) _⟩ ?_
 rintro W ⟨⟨c0,c1,c2⟩,hb⟩
 have k0:=cell_regrown c0
 have k1:=cell_regrown c1
 have k2:=cell_regrown c2
 refine wp_region_qb (by kernel_rfl) (by kernel_rfl) ?_
 repeat (first | go_big_quiet_skip | quiet_step (first | with_reducible exact Calls.later_same (HM.out _) | with_reducible exact Calls.later_same (HN.out _)))
 refine wpQuiet_nil ?_
 intro W1 hb1
 have hlt:=block_lt_of_cell c0
 have g0:=(hb1.cell hlt).trans c0
 have g1:=(hb1.cell (p:=⟨w.heap.size,0+1,none⟩) hlt).trans c1
 have g2:=(hb1.cell (p:=⟨w.heap.size,0+2,none⟩) hlt).trans c2
 go_wp2_with fail
 refine (rgcd_any s d _ hs hd).mono ?_; rintro e w3 ⟨rfl,hb3⟩
 go_wp2
 go_ret
 have hz:=hb.size
 have hz1:=hb1.size
 exact ⟨ret_bool HE.out,hb.trans ((hb1.mono hz).trans (hb3.mono (by omega)))⟩
theorem rvalid_any (n:Bool) (s d:ByteArray) (w:World) (hs:s.size≤268435456) (hd:d.size≤268435456) :
  Calls Tryz.prog 74 #[.agg #[.bool n,.string s,.string d]] w fun e w'=>e = .returned (.bool (vldB n s d))∧Below w.heap.size w w':=by
 by_cases h1:bn (nv s)=s
 ·by_cases h2:bn (nv d)=d
  ·by_cases h3:s.size=0
   ·obtain rfl:=toList_of_empty h3
    by_cases h5:d=⟨#[1]⟩
    ·subst h5
     rw [vldB_false fun h=>by have:=(h.2.2.1 rfl).2; exact absurd this (by decide)]
     exact rvalid_5 n ⟨#[]⟩ w hs h1
    have e:vldB n ⟨#[]⟩ d=(!n && decide (d.size=0)):=by
     by_cases h4:d.size=0
     ·obtain rfl:=toList_of_empty h4
      cases n
      ·exact vldB_true ⟨h1,h2,fun _=>⟨rfl,rfl⟩,.inl rfl⟩
      ·exact vldB_false fun h=>by have:=(h.2.2.1 rfl).1; exact absurd this (by decide)
     ·rw [decide_eq_false h4,Bool.and_false]
      exact vldB_false fun h=>nv_pos h2 h4 (h.2.2.1 rfl).2
    rw [e]; exact rvalid_3 n d w hd h2 h5
   ·have n1:=nv_pos h1 h3
    by_cases h4:d.size=0
    ·obtain rfl:=toList_of_empty h4
     rw [vldB_true ⟨h1,h2,fun h=>absurd h n1,.inl rfl⟩]
     exact rvalid_4 n s w hs h1 h3
    ·have n2:=nv_pos h2 h4
     by_cases h5:d=⟨#[1]⟩
     ·subst h5
      rw [vldB_false fun h=>by
       have e1:nv ⟨#[1]⟩=1:=rfl
       rcases h.2.2.2 with h6 | ⟨h6,_⟩
       ·rw [e1] at h6; exact absurd h6 (by decide)
       ·exact h6 e1]
      exact rvalid_5 n s w hs h1
     ·have n3:nv d≠1:=fun e=>h5 (by rw [← h2,e,bn_one])
      have e:vldB n s d=decide (Nat.gcd (nv s) (nv d)=1):=by
       by_cases h6:Nat.gcd (nv s) (nv d)=1
       ·rw [decide_eq_true h6]; exact vldB_true ⟨h1,h2,fun h=>absurd h n1,.inr ⟨n3,h6⟩⟩
       ·rw [decide_eq_false h6]; exact vldB_false fun h=>by
         rcases h.2.2.2 with h7 | ⟨_,h7⟩
         ·exact n2 h7
         ·exact h6 h7
      rw [e]; exact rvalid_6 n s d w hs hd h1 h3 h2 h4 h5
  ·rw [vldB_false fun h=>h2 h.2.1]; exact rvalid_2 n s d w hs hd h1 h2
 ·rw [vldB_false fun h=>h1 h.1]; exact rvalid_1 n s d w hs h1
set_option maxRecDepth 100000 in
theorem fix_any (n:Bool) (s d:ByteArray) (w:World) (hs:s.size≤268435456) (hd:d.size≤268435456) :
  Calls Tryz.prog 40 #[.agg #[.bool n,.string s,.string d]] w fun e w'=>e = .returned (rv (rq n s d))∧Below w.heap.size w w':=by
 have hv:=fun w=>rvalid_any n s d w hs hd
 by_cases h:vld n s d
 ·rw [rv_vld h]
  rw [vldB_true h] at hv
  have HV:=Lib.hid hv
  clear h hv
  go_enter Tryz.func40,Tryz.ntmps40
  go_wp2_with fail
  refine (HV.out _).mono ?_; rintro e w3 ⟨rfl,hb3⟩
  obtain ⟨H1,H2,HB⟩:=boxes2 hb3
  obtain ⟨a0,a1,a2,-,-,-⟩:=H1.get3
  obtain ⟨b0,b1,b2,f0,f1,f2⟩:=H2.get3
  have HB:=Lib.hid HB
  have H2:=Lib.hid H2
  clear hb3 H1
  go_wp2
  refine bodyPost_forget (fun W=>Blk W (w.heap.size+1) #[.bool n,.string s,.string d]∧Below w.heap.size w W) ⟨by exact Blk.set3 H2.out _ _ _,below_set3 HB.out (by omega) _ _ _⟩ ?_
  rintro WR ⟨hr9,hb9⟩
  obtain ⟨y90,y91,y92,-,-,-⟩:=hr9.get3
  exact bodyPost_ret (v:=.agg #[.bool n,.string s,.string d]) (by simp [results,Tryz.results40,go_sem,y90,y91,y92]) rfl ⟨rfl,hb9⟩
 ·rw [rv_bad h]
  rw [vldB_false h] at hv
  have HV:=Lib.hid hv
  clear h hv
  go_enter Tryz.func40,Tryz.ntmps40
  go_wp2_with fail
  refine (HV.out _).mono ?_; rintro e w3 ⟨rfl,hb3⟩
  obtain ⟨H1,H2,HB⟩:=boxes2 hb3
  obtain ⟨a0,a1,a2,-,-,-⟩:=H1.get3
  obtain ⟨b0,b1,b2,f0,f1,f2⟩:=H2.get3
  have HB:=Lib.hid HB
  have H2:=Lib.hid H2
  clear hb3 H1
  go_wp2
  refine bodyPost_forget (fun W=>Blk W (w.heap.size+1) #[.bool false,.string ⟨#[]⟩,.string ⟨#[]⟩]∧Below w.heap.size w W) ⟨by exact Blk.set3 H2.out _ _ _,below_set3 HB.out (by omega) _ _ _⟩ ?_
  rintro WR ⟨hr9,hb9⟩
  obtain ⟨y90,y91,y92,-,-,-⟩:=hr9.get3
  exact bodyPost_ret (v:=.agg #[.bool false,.string ⟨#[]⟩,.string ⟨#[]⟩]) (by simp [results,Tryz.results40,go_sem,y90,y91,y92]) rfl ⟨rfl,hb9⟩
theorem fix_agg (n:Bool) (s d:ByteArray) (w:World) (hs:s.size≤268435456) (hd:d.size≤268435456) :
  Calls Tryz.prog 40 #[.agg #[.bool n,.string s,.string d]] w fun e w'=>e = .returned (.agg #[.bool (rn (rq n s d)),.string (rs (rq n s d)),.string (rd (rq n s d))])∧Below w.heap.size w w':=fix_any n s d w hs hd
theorem Limbs.shape {w:World} {a:Option Addr} {l x:Nat} (h:Limbs w a l x) (hx:0<x) :
  (l=1∧x<LB∧∃ b o,a=some ⟨b,o,none⟩∧w.cell? ⟨b,o,none⟩=some (.int .u32 (x:Int)))∨(1<l∧1<x):=by
 obtain ⟨f,rfl,h2,h3⟩:=h
 have hl:0<l:=by
  rcases Nat.eq_zero_or_pos l with e | e
  ·subst e; exact absurd hx (Nat.lt_irrefl 0)
  ·exact e
 by_cases h1:l=1
 ·subst h1
  have e:lv f 1=f 0:=by simp [lv]
  rw [e]
  rcases h3 with h3 | ⟨b,o,rfl,hr⟩
  ·omega
  ·refine .inl ⟨rfl,h2.1 0 (by omega),b,o,rfl,?_⟩
   have:=hr 0 (by omega)
   rwa [Nat.add_zero] at this
 ·right
  refine ⟨by omega,?_⟩
  have:=h2.ge hl
  have h5:LB ^ 1≤LB ^ (l - 1):=Nat.pow_le_pow_right LB_pos (by omega)
  rw [Nat.pow_one] at h5
  unfold LB at h5 this
  omega
theorem gcd_divides_pos {x y:Nat} (hx:0<x) (hy:0<y):0<Nat.gcd x y∧0<x/Nat.gcd x y∧0<y/Nat.gcd x y :=
 ⟨Nat.gcd_pos_of_pos_left _ hx,Nat.div_pos (Nat.gcd_le_left y hx) (Nat.gcd_pos_of_pos_left y hx),Nat.div_pos (Nat.gcd_le_right x hy) (Nat.gcd_pos_of_pos_left y hx)⟩
set_option maxRecDepth 100000 in
theorem rreduced_zero (neg:Bool) (ax ay:Option Addr) (cx ly cy:Nat) (w:World) :
  Calls Tryz.prog 146 #[.bool neg,.slice ax 0 cx,.slice ay ly cy] w fun e w'=>e = .returned (rv 0)∧Below w.heap.size w w':=by
 go_enter Tryz.func146,Tryz.ntmps146
 go_wp2
 exact bodyPost_ret (v:=rv 0) (by simp [results,Tryz.results146,go_sem,rv,rn_zero,rs_zero,rd_zero]) rfl ⟨rfl,(Below.refl _ _).alloc (Nat.le_refl _) _⟩
set_option maxRecDepth 100000 in
theorem rreduced_pos (neg:Bool) (ax ay:Option Addr) (lx ly cx cy x y k:Nat) (w:World) (h1:LimV w ax lx cx x) (h2:LimV w ay ly cy y) (hx:0<x) (hy:0<y) (kx:x<256 ^ k) (ky:y<256 ^ k) (hk:k≤1073741820) :
  Calls Tryz.prog 146 #[.bool neg,.slice ax lx cx,.slice ay ly cy] w fun e w'=>e = .returned (rv (fr neg x y))∧Below w.heap.size w w':=by
 rw [rv_fr hx hy]
 obtain ⟨g0,n0,d0⟩:=gcd_divides_pos hx hy
 have kn:x/Nat.gcd x y<256 ^ k:=Nat.lt_of_le_of_lt (Nat.div_le_self _ _) kx
 have kd:y/Nat.gcd x y<256 ^ k:=Nat.lt_of_le_of_lt (Nat.div_le_self _ _) ky
 have kg:Nat.gcd x y<256 ^ k:=Nat.lt_of_le_of_lt (Nat.gcd_le_left _ hx) kx
 have hlx:0<lx:=by
  rcases Nat.eq_zero_or_pos lx with e | e
  ·have:=h1.2.2.2.zero_iff.mpr e; omega
  ·exact e
 have hq1:Nat.gcd x y=1→x/Nat.gcd x y=x∧y/Nat.gcd x y=y:=fun e=>by rw [e,Nat.div_one,Nat.div_one]; exact ⟨rfl,rfl⟩
 have HCM:=Lib.hid (fun w (h1:LimV w ax lx cx x) (h2:LimV w ay ly cy y)=>common_any ax ay lx ly cx cy x y w h1 h2)
 have HDX:=Lib.hid (fun w ag lg cg (h1:LimV w ax lx cx x) (h2:LimV w ag lg cg (Nat.gcd x y))=>rdivide_any ax ag lx lg cx cg x (Nat.gcd x y) w h1.2.2.2 h2.2.2.2 g0 h1.2.2.1 h1.1 h1.2.1 h2.2.2.1)
 have HDY:=Lib.hid (fun w ag lg cg (h1:LimV w ay ly cy y) (h2:LimV w ag lg cg (Nat.gcd x y))=>rdivide_any ay ag ly lg cy cg y (Nat.gcd x y) w h1.2.2.2 h2.2.2.2 g0 h1.2.2.1 h1.1 h1.2.1 h2.2.2.1)
 have HN:=Lib.hid h1
 have HM:=Lib.hid h2
 have HQ1:=Lib.hid hq1
 have KN:=Lib.hid kn
 have KD:=Lib.hid kd
 have KG:=Lib.hid kg
 clear h1 h2 kn kd kg kx ky hq1
 generalize hNe:x/Nat.gcd x y=N at *
 generalize hDe:y/Nat.gcd x y=D at *
 generalize Nat.gcd x y=G at *
 have HNE:=Lib.hid hNe
 have HDE:=Lib.hid hDe
 clear hNe hDe
 generalize hT:(if D=1 then (⟨#[]⟩:ByteArray) else bn D)=T
 have HT:=Lib.hid hT
 clear hT
 go_enter Tryz.func146,Tryz.ntmps146
 go_wp2_with fail
 have z0:=(Below.refl w.heap.size w).alloc (Nat.le_refl _) (.cells #[.bool false,.string ⟨#[]⟩,.string ⟨#[]⟩] 71)
 have A1:LimV (w.alloc (.cells #[.bool false,.string ⟨#[]⟩,.string ⟨#[]⟩] 71)) ax lx cx x:=⟨HN.out.1,HN.out.2.1,HN.out.2.2.1,HN.out.2.2.2.below z0 (Nat.le_refl _)⟩
 have A2:LimV (w.alloc (.cells #[.bool false,.string ⟨#[]⟩,.string ⟨#[]⟩] 71)) ay ly cy y:=⟨HM.out.1,HM.out.2.1,HM.out.2.2.1,HM.out.2.2.2.below z0 (Nat.le_refl _)⟩
 refine (HCM.out _ A1 A2).mono ?_; rintro e w3 ⟨ag,lg,cg,rfl,lcg,ccg,hG,hb3⟩
 have llg:=RetLimbs.lim (w:=w) hG KG.out (by omega)
 have B1:=Lib.hid (show LimV w3 ax lx cx x from ⟨A1.1,A1.2.1,A1.2.2.1,A1.2.2.2.below hb3 (Nat.le_refl _)⟩)
 have B2:=Lib.hid (show LimV w3 ay ly cy y from ⟨A2.1,A2.2.1,A2.2.2.1,A2.2.2.2.below hb3 (Nat.le_refl _)⟩)
 have B3:=Lib.hid (show LimV w3 ag lg cg G from ⟨lcg,ccg,by omega,hG⟩)
 have hsh:=hG.shape g0
 have HR:=Lib.hid (boxes1 hb3).1
 have HB:=Lib.hid (boxes1 hb3).2
 clear hb3 hG A1 A2 HCM HN HM z0
 rcases hsh with ⟨rfl,hgl,bg,og,rfl,cg0⟩ | ⟨hlg,hg1⟩
 ·by_cases hg1:G=1
  ·as_aux_lemma =>
   obtain ⟨e1,e2⟩:=HQ1.out hg1
   have M1:=Lib.hid (show LimV w3 ax lx cx N by rw [e1]; exact B1.out)
   have M2:=Lib.hid (show LimV w3 ay ly cy D by rw [e2]; exact B2.out)
   rw [hg1] at cg0
   replace cg0:w3.cell? ⟨bg,og,none⟩=some (.int .u32 1):=cg0
   clear e1 e2 HQ1 B1 B2 B3 HDX HDY hg1
   obtain ⟨u1,u2,u3,hN⟩:=M1.out
   obtain ⟨v1,v2,v3,hD⟩:=M2.out
   have ln:=RetLimbs.lim (w:=w) hN KN.out (by omega)
   have ld:=RetLimbs.lim (w:=w) hD KD.out (by omega)
   have HNN:=Lib.hid hN
   have HDD:=Lib.hid hD
   clear hN hD
   go_wp2_with fail
   refine (rtext_any _ _ _ _ _ HNN.out (by omega) u1).mono ?_; rintro e w6 ⟨rfl,hb6⟩
   have HR6:=Lib.hid (HR.out.on hb6)
   have HB6:=Lib.hid (chain HB.out hb6 (Nat.le_refl _))
   have hD6:=HDD.out.below hb6 (Nat.le_refl _)
   have HD6:=Lib.hid hD6
   have hsd:=hD6.shape d0
   clear hb6 hD6 HR HB HNN HDD
   have z6:=HR6.out.lt
   rcases hsd with ⟨rfl,hdl,bd,od,rfl,cd⟩ | ⟨hld,hd1⟩
   ·have zd:=block_lt_of_cell cd
    have cd2:=((Below.refl w6.heap.size w6).alloc (Nat.le_refl _) (.cells #[.bool neg,.string (bn N),.string ⟨#[]⟩] 71)).cell (p:=⟨bd,od,none⟩) zd
    by_cases hd1:D=1
    ·as_aux_lemma =>
     subst hd1
     have hT:=HT.out
     rw [if_pos rfl] at hT
     subst hT
     replace cd:w6.cell? ⟨bd,od,none⟩=some (.int .u32 1):=cd
     rw [cd] at cd2
     obtain ⟨a0,a1,a2,a3,a4,a5⟩:=HR6.out.get3
     go_wp2
     have q9:=below_set3 HB6.out (Nat.le_refl _) (.bool neg) (.string (bn N)) (.string ⟨#[]⟩)
     refine bodyPost_forget (fun W=>Blk W w.heap.size #[.bool neg,.string (bn N),.string ⟨#[]⟩]∧Below w.heap.size w W) ⟨by exact (Blk.set3 HR6.out _ _ _).alloc _,by exact q9.alloc q9.size _⟩ ?_
     rintro WR ⟨hr9,hb9⟩
     obtain ⟨y90,y91,y92,-,-,-⟩:=hr9.get3
     exact bodyPost_ret (v:=.agg #[.bool neg,.string (bn N),.string ⟨#[]⟩]) (by simp [results,Tryz.results146,go_sem,y90,y91,y92]) rfl ⟨rfl,hb9⟩
    ·as_aux_lemma =>
     have hT:=HT.out
     rw [if_neg hd1] at hT
     subst hT
     rw [cd] at cd2
     have hd2:(1:Int)<(D:Int):=by omega
     have hd3:(D:Int)≤4294967295:=by unfold LB at hdl; omega
     clear hd1
     go_wp2_with fail
     refine (rtext_any _ _ _ _ _ (HD6.out.below ((Below.refl w6.heap.size w6).alloc (Nat.le_refl _) _) (Nat.le_refl _)) (by omega) v1).mono ?_; rintro e w7 ⟨rfl,hb7⟩
     have R7:=Lib.hid ((HR6.out.alloc _).on hb7)
     have S7:=Lib.hid ((Blk.new w6 #[.bool neg,.string (bn N),.string ⟨#[]⟩] 71).on hb7)
     have B7:=Lib.hid (chain (HB6.out.alloc (by omega) _) hb7 (Nat.le_refl _))
     obtain ⟨a0,a1,a2,a3,a4,a5⟩:=R7.out.get3
     obtain ⟨b0,b1,b2,b3,b4,b5⟩:=S7.out.get3
     have hne:w6.heap.size≠w.heap.size:=by omega
     clear hb7
     go_wp2
     refine bodyPost_forget (fun W=>Blk W w.heap.size #[.bool neg,.string (bn N),.string (bn D)]∧Below w.heap.size w W) ⟨by exact Blk.set3 (R7.out.setOther _ _ (by exact hne.symm)) _ _ _,below_set3 (B7.out.setCell (by exact Nat.le_of_lt z6) _) (Nat.le_refl _) _ _ _⟩ ?_
     rintro WR ⟨hr9,hb9⟩
     obtain ⟨y90,y91,y92,-,-,-⟩:=hr9.get3
     exact bodyPost_ret (v:=.agg #[.bool neg,.string (bn N),.string (bn D)]) (by simp [results,Tryz.results146,go_sem,y90,y91,y92]) rfl ⟨rfl,hb9⟩
   ·as_aux_lemma =>
     have hd2:(1:Int)<(ly:Int):=by omega
     have hT:=HT.out
     rw [if_neg (by omega)] at hT
     subst hT
     go_wp2_with fail
     refine (rtext_any _ _ _ _ _ (HD6.out.below ((Below.refl w6.heap.size w6).alloc (Nat.le_refl _) _) (Nat.le_refl _)) (by omega) v1).mono ?_; rintro e w7 ⟨rfl,hb7⟩
     have R7:=Lib.hid ((HR6.out.alloc _).on hb7)
     have S7:=Lib.hid ((Blk.new w6 #[.bool neg,.string (bn N),.string ⟨#[]⟩] 71).on hb7)
     have B7:=Lib.hid (chain (HB6.out.alloc (by omega) _) hb7 (Nat.le_refl _))
     obtain ⟨a0,a1,a2,a3,a4,a5⟩:=R7.out.get3
     obtain ⟨b0,b1,b2,b3,b4,b5⟩:=S7.out.get3
     have hne:w6.heap.size≠w.heap.size:=by omega
     clear hb7
     go_wp2
     refine bodyPost_forget (fun W=>Blk W w.heap.size #[.bool neg,.string (bn N),.string (bn D)]∧Below w.heap.size w W) ⟨by exact Blk.set3 (R7.out.setOther _ _ (by exact hne.symm)) _ _ _,below_set3 (B7.out.setCell (by exact Nat.le_of_lt z6) _) (Nat.le_refl _) _ _ _⟩ ?_
     rintro WR ⟨hr9,hb9⟩
     obtain ⟨y90,y91,y92,-,-,-⟩:=hr9.get3
     exact bodyPost_ret (v:=.agg #[.bool neg,.string (bn N),.string (bn D)]) (by simp [results,Tryz.results146,go_sem,y90,y91,y92]) rfl ⟨rfl,hb9⟩
  ·as_aux_lemma =>
   have hg2:(1:Int)<(G:Int):=by omega
   have hg3:(G:Int)≤4294967295:=by unfold LB at hgl; omega
   clear hg1 HQ1
   go_wp2_with fail
   refine (HDX.out _ _ _ _ B1.out B3.out).mono ?_; rintro e w4 ⟨an,ln,cn,qn,l9,c9,rfl,g1,g2,g3,g4,g5,g6,g7⟩
   rw [HNE.out] at g5
   have lln:=RetLimbs.lim (w:=w) g5 KN.out (by omega)
   have C1:=Lib.hid (show LimV w4 an ln cn N from ⟨g1,g2,by omega,g5⟩)
   have C2:=Lib.hid (show LimV w4 ay ly cy y from ⟨B2.out.1,B2.out.2.1,B2.out.2.2.1,B2.out.2.2.2.below g7 (Nat.le_refl _)⟩)
   have C3:=Lib.hid (show LimV w4 (some ⟨bg,og,none⟩) 1 cg G from ⟨B3.out.1,B3.out.2.1,B3.out.2.2.1,B3.out.2.2.2.below g7 (Nat.le_refl _)⟩)
   have R4:=Lib.hid (HR.out.on g7)
   have B4:=Lib.hid (chain HB.out g7 (Nat.le_refl _))
   clear g5 g6 g7 HR HB B1 B2 B3 HDX
   go_wp2_with fail
   refine (HDY.out _ _ _ _ C2.out C3.out).mono ?_; rintro e w5 ⟨adn,ldn,cdn,qd,l8,c8,rfl,g1',g2',g3',g4',g5,g6,g7⟩
   rw [HDE.out] at g5
   have lld:=RetLimbs.lim (w:=w) g5 KD.out (by omega)
   have M1:=Lib.hid (show LimV w5 an ln cn N from ⟨C1.out.1,C1.out.2.1,C1.out.2.2.1,C1.out.2.2.2.below g7 (Nat.le_refl _)⟩)
   have M2:=Lib.hid (show LimV w5 adn ldn cdn D from ⟨g1',g2',by omega,g5⟩)
   have HR:=Lib.hid (R4.out.on g7)
   have HB:=Lib.hid (chain B4.out g7 (Nat.le_refl _))
   clear g5 g6 g7 R4 B4 C1 C2 C3 HDY
   obtain ⟨u1,u2,u3,hN⟩:=M1.out
   obtain ⟨v1,v2,v3,hD⟩:=M2.out
   have ln:=RetLimbs.lim (w:=w) hN KN.out (by omega)
   have ld:=RetLimbs.lim (w:=w) hD KD.out (by omega)
   have HNN:=Lib.hid hN
   have HDD:=Lib.hid hD
   clear hN hD
   go_wp2_with fail
   refine (rtext_any _ _ _ _ _ HNN.out (by omega) u1).mono ?_; rintro e w6 ⟨rfl,hb6⟩
   have HR6:=Lib.hid (HR.out.on hb6)
   have HB6:=Lib.hid (chain HB.out hb6 (Nat.le_refl _))
   have hD6:=HDD.out.below hb6 (Nat.le_refl _)
   have HD6:=Lib.hid hD6
   have hsd:=hD6.shape d0
   clear hb6 hD6 HR HB HNN HDD
   have z6:=HR6.out.lt
   rcases hsd with ⟨rfl,hdl,bd,od,rfl,cd⟩ | ⟨hld,hd1⟩
   ·have zd:=block_lt_of_cell cd
    have cd2:=((Below.refl w6.heap.size w6).alloc (Nat.le_refl _) (.cells #[.bool neg,.string (bn N),.string ⟨#[]⟩] 71)).cell (p:=⟨bd,od,none⟩) zd
    by_cases hd1:D=1
    ·as_aux_lemma =>
     subst hd1
     have hT:=HT.out
     rw [if_pos rfl] at hT
     subst hT
     replace cd:w6.cell? ⟨bd,od,none⟩=some (.int .u32 1):=cd
     rw [cd] at cd2
     obtain ⟨a0,a1,a2,a3,a4,a5⟩:=HR6.out.get3
     go_wp2
     have q9:=below_set3 HB6.out (Nat.le_refl _) (.bool neg) (.string (bn N)) (.string ⟨#[]⟩)
     refine bodyPost_forget (fun W=>Blk W w.heap.size #[.bool neg,.string (bn N),.string ⟨#[]⟩]∧Below w.heap.size w W) ⟨by exact (Blk.set3 HR6.out _ _ _).alloc _,by exact q9.alloc q9.size _⟩ ?_
     rintro WR ⟨hr9,hb9⟩
     obtain ⟨y90,y91,y92,-,-,-⟩:=hr9.get3
     exact bodyPost_ret (v:=.agg #[.bool neg,.string (bn N),.string ⟨#[]⟩]) (by simp [results,Tryz.results146,go_sem,y90,y91,y92]) rfl ⟨rfl,hb9⟩
    ·as_aux_lemma =>
     have hT:=HT.out
     rw [if_neg hd1] at hT
     subst hT
     rw [cd] at cd2
     have hd2:(1:Int)<(D:Int):=by omega
     have hd3:(D:Int)≤4294967295:=by unfold LB at hdl; omega
     clear hd1
     go_wp2_with fail
     refine (rtext_any _ _ _ _ _ (HD6.out.below ((Below.refl w6.heap.size w6).alloc (Nat.le_refl _) _) (Nat.le_refl _)) (by omega) v1).mono ?_; rintro e w7 ⟨rfl,hb7⟩
     have R7:=Lib.hid ((HR6.out.alloc _).on hb7)
     have S7:=Lib.hid ((Blk.new w6 #[.bool neg,.string (bn N),.string ⟨#[]⟩] 71).on hb7)
     have B7:=Lib.hid (chain (HB6.out.alloc (by omega) _) hb7 (Nat.le_refl _))
     obtain ⟨a0,a1,a2,a3,a4,a5⟩:=R7.out.get3
     obtain ⟨b0,b1,b2,b3,b4,b5⟩:=S7.out.get3
     have hne:w6.heap.size≠w.heap.size:=by omega
     clear hb7
     go_wp2
     refine bodyPost_forget (fun W=>Blk W w.heap.size #[.bool neg,.string (bn N),.string (bn D)]∧Below w.heap.size w W) ⟨by exact Blk.set3 (R7.out.setOther _ _ (by exact hne.symm)) _ _ _,below_set3 (B7.out.setCell (by exact Nat.le_of_lt z6) _) (Nat.le_refl _) _ _ _⟩ ?_
     rintro WR ⟨hr9,hb9⟩
     obtain ⟨y90,y91,y92,-,-,-⟩:=hr9.get3
     exact bodyPost_ret (v:=.agg #[.bool neg,.string (bn N),.string (bn D)]) (by simp [results,Tryz.results146,go_sem,y90,y91,y92]) rfl ⟨rfl,hb9⟩
   ·as_aux_lemma =>
     have hd2:(1:Int)<(ldn:Int):=by omega
     have hT:=HT.out
     rw [if_neg (by omega)] at hT
     subst hT
     go_wp2_with fail
     refine (rtext_any _ _ _ _ _ (HD6.out.below ((Below.refl w6.heap.size w6).alloc (Nat.le_refl _) _) (Nat.le_refl _)) (by omega) v1).mono ?_; rintro e w7 ⟨rfl,hb7⟩
     have R7:=Lib.hid ((HR6.out.alloc _).on hb7)
     have S7:=Lib.hid ((Blk.new w6 #[.bool neg,.string (bn N),.string ⟨#[]⟩] 71).on hb7)
     have B7:=Lib.hid (chain (HB6.out.alloc (by omega) _) hb7 (Nat.le_refl _))
     obtain ⟨a0,a1,a2,a3,a4,a5⟩:=R7.out.get3
     obtain ⟨b0,b1,b2,b3,b4,b5⟩:=S7.out.get3
     have hne:w6.heap.size≠w.heap.size:=by omega
     clear hb7
     go_wp2
     refine bodyPost_forget (fun W=>Blk W w.heap.size #[.bool neg,.string (bn N),.string (bn D)]∧Below w.heap.size w W) ⟨by exact Blk.set3 (R7.out.setOther _ _ (by exact hne.symm)) _ _ _,below_set3 (B7.out.setCell (by exact Nat.le_of_lt z6) _) (Nat.le_refl _) _ _ _⟩ ?_
     rintro WR ⟨hr9,hb9⟩
     obtain ⟨y90,y91,y92,-,-,-⟩:=hr9.get3
     exact bodyPost_ret (v:=.agg #[.bool neg,.string (bn N),.string (bn D)]) (by simp [results,Tryz.results146,go_sem,y90,y91,y92]) rfl ⟨rfl,hb9⟩
 ·as_aux_lemma =>
   have hg2:(1:Int)<(lg:Int):=by omega
   clear hg1 HQ1
   go_wp2_with fail
   refine (HDX.out _ _ _ _ B1.out B3.out).mono ?_; rintro e w4 ⟨an,ln,cn,qn,l9,c9,rfl,g1,g2,g3,g4,g5,g6,g7⟩
   rw [HNE.out] at g5
   have lln:=RetLimbs.lim (w:=w) g5 KN.out (by omega)
   have C1:=Lib.hid (show LimV w4 an ln cn N from ⟨g1,g2,by omega,g5⟩)
   have C2:=Lib.hid (show LimV w4 ay ly cy y from ⟨B2.out.1,B2.out.2.1,B2.out.2.2.1,B2.out.2.2.2.below g7 (Nat.le_refl _)⟩)
   have C3:=Lib.hid (show LimV w4 ag lg cg G from ⟨B3.out.1,B3.out.2.1,B3.out.2.2.1,B3.out.2.2.2.below g7 (Nat.le_refl _)⟩)
   have R4:=Lib.hid (HR.out.on g7)
   have B4:=Lib.hid (chain HB.out g7 (Nat.le_refl _))
   clear g5 g6 g7 HR HB B1 B2 B3 HDX
   go_wp2_with fail
   refine (HDY.out _ _ _ _ C2.out C3.out).mono ?_; rintro e w5 ⟨adn,ldn,cdn,qd,l8,c8,rfl,g1',g2',g3',g4',g5,g6,g7⟩
   rw [HDE.out] at g5
   have lld:=RetLimbs.lim (w:=w) g5 KD.out (by omega)
   have M1:=Lib.hid (show LimV w5 an ln cn N from ⟨C1.out.1,C1.out.2.1,C1.out.2.2.1,C1.out.2.2.2.below g7 (Nat.le_refl _)⟩)
   have M2:=Lib.hid (show LimV w5 adn ldn cdn D from ⟨g1',g2',by omega,g5⟩)
   have HR:=Lib.hid (R4.out.on g7)
   have HB:=Lib.hid (chain B4.out g7 (Nat.le_refl _))
   clear g5 g6 g7 R4 B4 C1 C2 C3 HDY
   obtain ⟨u1,u2,u3,hN⟩:=M1.out
   obtain ⟨v1,v2,v3,hD⟩:=M2.out
   have ln:=RetLimbs.lim (w:=w) hN KN.out (by omega)
   have ld:=RetLimbs.lim (w:=w) hD KD.out (by omega)
   have HNN:=Lib.hid hN
   have HDD:=Lib.hid hD
   clear hN hD
   go_wp2_with fail
   refine (rtext_any _ _ _ _ _ HNN.out (by omega) u1).mono ?_; rintro e w6 ⟨rfl,hb6⟩
   have HR6:=Lib.hid (HR.out.on hb6)
   have HB6:=Lib.hid (chain HB.out hb6 (Nat.le_refl _))
   have hD6:=HDD.out.below hb6 (Nat.le_refl _)
   have HD6:=Lib.hid hD6
   have hsd:=hD6.shape d0
   clear hb6 hD6 HR HB HNN HDD
   have z6:=HR6.out.lt
   rcases hsd with ⟨rfl,hdl,bd,od,rfl,cd⟩ | ⟨hld,hd1⟩
   ·have zd:=block_lt_of_cell cd
    have cd2:=((Below.refl w6.heap.size w6).alloc (Nat.le_refl _) (.cells #[.bool neg,.string (bn N),.string ⟨#[]⟩] 71)).cell (p:=⟨bd,od,none⟩) zd
    by_cases hd1:D=1
    ·as_aux_lemma =>
     subst hd1
     have hT:=HT.out
     rw [if_pos rfl] at hT
     subst hT
     replace cd:w6.cell? ⟨bd,od,none⟩=some (.int .u32 1):=cd
     rw [cd] at cd2
     obtain ⟨a0,a1,a2,a3,a4,a5⟩:=HR6.out.get3
     go_wp2
     have q9:=below_set3 HB6.out (Nat.le_refl _) (.bool neg) (.string (bn N)) (.string ⟨#[]⟩)
     refine bodyPost_forget (fun W=>Blk W w.heap.size #[.bool neg,.string (bn N),.string ⟨#[]⟩]∧Below w.heap.size w W) ⟨by exact (Blk.set3 HR6.out _ _ _).alloc _,by exact q9.alloc q9.size _⟩ ?_
     rintro WR ⟨hr9,hb9⟩
     obtain ⟨y90,y91,y92,-,-,-⟩:=hr9.get3
     exact bodyPost_ret (v:=.agg #[.bool neg,.string (bn N),.string ⟨#[]⟩]) (by simp [results,Tryz.results146,go_sem,y90,y91,y92]) rfl ⟨rfl,hb9⟩
    ·as_aux_lemma =>
     have hT:=HT.out
     rw [if_neg hd1] at hT
     subst hT
     rw [cd] at cd2
     have hd2:(1:Int)<(D:Int):=by omega
     have hd3:(D:Int)≤4294967295:=by unfold LB at hdl; omega
     clear hd1
     go_wp2_with fail
     refine (rtext_any _ _ _ _ _ (HD6.out.below ((Below.refl w6.heap.size w6).alloc (Nat.le_refl _) _) (Nat.le_refl _)) (by omega) v1).mono ?_; rintro e w7 ⟨rfl,hb7⟩
     have R7:=Lib.hid ((HR6.out.alloc _).on hb7)
     have S7:=Lib.hid ((Blk.new w6 #[.bool neg,.string (bn N),.string ⟨#[]⟩] 71).on hb7)
     have B7:=Lib.hid (chain (HB6.out.alloc (by omega) _) hb7 (Nat.le_refl _))
     obtain ⟨a0,a1,a2,a3,a4,a5⟩:=R7.out.get3
     obtain ⟨b0,b1,b2,b3,b4,b5⟩:=S7.out.get3
     have hne:w6.heap.size≠w.heap.size:=by omega
     clear hb7
     go_wp2
     refine bodyPost_forget (fun W=>Blk W w.heap.size #[.bool neg,.string (bn N),.string (bn D)]∧Below w.heap.size w W) ⟨by exact Blk.set3 (R7.out.setOther _ _ (by exact hne.symm)) _ _ _,below_set3 (B7.out.setCell (by exact Nat.le_of_lt z6) _) (Nat.le_refl _) _ _ _⟩ ?_
     rintro WR ⟨hr9,hb9⟩
     obtain ⟨y90,y91,y92,-,-,-⟩:=hr9.get3
     exact bodyPost_ret (v:=.agg #[.bool neg,.string (bn N),.string (bn D)]) (by simp [results,Tryz.results146,go_sem,y90,y91,y92]) rfl ⟨rfl,hb9⟩
   ·as_aux_lemma =>
     have hd2:(1:Int)<(ldn:Int):=by omega
     have hT:=HT.out
     rw [if_neg (by omega)] at hT
     subst hT
     go_wp2_with fail
     refine (rtext_any _ _ _ _ _ (HD6.out.below ((Below.refl w6.heap.size w6).alloc (Nat.le_refl _) _) (Nat.le_refl _)) (by omega) v1).mono ?_; rintro e w7 ⟨rfl,hb7⟩
     have R7:=Lib.hid ((HR6.out.alloc _).on hb7)
     have S7:=Lib.hid ((Blk.new w6 #[.bool neg,.string (bn N),.string ⟨#[]⟩] 71).on hb7)
     have B7:=Lib.hid (chain (HB6.out.alloc (by omega) _) hb7 (Nat.le_refl _))
     obtain ⟨a0,a1,a2,a3,a4,a5⟩:=R7.out.get3
     obtain ⟨b0,b1,b2,b3,b4,b5⟩:=S7.out.get3
     have hne:w6.heap.size≠w.heap.size:=by omega
     clear hb7
     go_wp2
     refine bodyPost_forget (fun W=>Blk W w.heap.size #[.bool neg,.string (bn N),.string (bn D)]∧Below w.heap.size w W) ⟨by exact Blk.set3 (R7.out.setOther _ _ (by exact hne.symm)) _ _ _,below_set3 (B7.out.setCell (by exact Nat.le_of_lt z6) _) (Nat.le_refl _) _ _ _⟩ ?_
     rintro WR ⟨hr9,hb9⟩
     obtain ⟨y90,y91,y92,-,-,-⟩:=hr9.get3
     exact bodyPost_ret (v:=.agg #[.bool neg,.string (bn N),.string (bn D)]) (by simp [results,Tryz.results146,go_sem,y90,y91,y92]) rfl ⟨rfl,hb9⟩
theorem rreduced_any (neg:Bool) (ax ay:Option Addr) (lx ly cx cy x y k:Nat) (w:World) (h1:LimV w ax lx cx x) (h2:LimV w ay ly cy y) (hy:0<y) (kx:x<256 ^ k) (ky:y<256 ^ k) (hk:k≤1073741820) :
  Calls Tryz.prog 146 #[.bool neg,.slice ax lx cx,.slice ay ly cy] w fun e w'=>e = .returned (.agg #[.bool (rn (fr neg x y)),.string (rs (fr neg x y)),.string (rd (fr neg x y))])∧Below w.heap.size w w':=by
 rcases Nat.eq_zero_or_pos x with h | h
 ·have hl:=h1.2.2.2.zero_iff.mp h
  subst hl
  rw [h,fr_zero]
  exact rreduced_zero neg ax ay cx ly cy w
 ·exact rreduced_pos neg ax ay lx ly cx cy x y k w h1 h2 h hy kx ky hk
structure TimC (p1:Bool) (p2 p3:ByteArray) (q1:Bool) (q2 q3:ByteArray) (x y d g k:Nat) (r1:Bool) (r2 r3:ByteArray):Prop where
 lp : ∀ w,Calls Tryz.prog 145 #[.string p2] w (RetLimbs w x)
 lq : ∀ w,Calls Tryz.prog 145 #[.string q2] w (RetLimbs w y)
 dp : ∀ w,Calls Tryz.prog 143 #[.agg #[.bool p1,.string p2,.string p3]] w (RetLimbs w d)
 dq : ∀ w,Calls Tryz.prog 143 #[.agg #[.bool q1,.string q2,.string q3]] w (RetLimbs w g)
 hx:x<256 ^ k
 hy:y<256 ^ k
 hd:d<256 ^ k
 hg:g<256 ^ k
 rd : ∀ w an ln cn ad ld cd,LimV w an ln cn (x*y)→LimV w ad ld cd (d*g)→Calls Tryz.prog 146 #[.bool (!(p1 == q1)),.slice an ln cn,.slice ad ld cd] w fun e w'=>e = .returned (.agg #[.bool r1,.string r2,.string r3])∧Below w.heap.size w w'
structure OvrC (p1:Bool) (p2 p3:ByteArray) (q1:Bool) (q2 q3:ByteArray) (x y d g k:Nat) (r1:Bool) (r2 r3:ByteArray):Prop where
 lp : ∀ w,Calls Tryz.prog 145 #[.string p2] w (RetLimbs w x)
 lq : ∀ w,Calls Tryz.prog 145 #[.string q2] w (RetLimbs w y)
 dp : ∀ w,Calls Tryz.prog 143 #[.agg #[.bool p1,.string p2,.string p3]] w (RetLimbs w d)
 dq : ∀ w,Calls Tryz.prog 143 #[.agg #[.bool q1,.string q2,.string q3]] w (RetLimbs w g)
 hx:x<256 ^ k
 hy:y<256 ^ k
 hd:d<256 ^ k
 hg:g<256 ^ k
 rd : ∀ w an ln cn ad ld cd,LimV w an ln cn (x*g)→LimV w ad ld cd (d*y)→Calls Tryz.prog 146 #[.bool (!(p1 == q1)),.slice an ln cn,.slice ad ld cd] w fun e w'=>e = .returned (.agg #[.bool r1,.string r2,.string r3])∧Below w.heap.size w w'
structure PluC (p1:Bool) (p2 p3:ByteArray) (q1:Bool) (q2 q3:ByteArray) (x y d g k:Nat) (r1:Bool) (r2 r3:ByteArray):Prop where
 lp : ∀ w,Calls Tryz.prog 145 #[.string p2] w (RetLimbs w x)
 lq : ∀ w,Calls Tryz.prog 145 #[.string q2] w (RetLimbs w y)
 dp : ∀ w,Calls Tryz.prog 143 #[.agg #[.bool p1,.string p2,.string p3]] w (RetLimbs w d)
 dq : ∀ w,Calls Tryz.prog 143 #[.agg #[.bool q1,.string q2,.string q3]] w (RetLimbs w g)
 hx:x<256 ^ k
 hy:y<256 ^ k
 hd:d<256 ^ k
 hg:g<256 ^ k
 same:p1=q1→∀ w an ln cn ad ld cd,LimV w an ln cn (x*g+y*d)→LimV w ad ld cd (d*g)→Calls Tryz.prog 146 #[.bool p1,.slice an ln cn,.slice ad ld cd] w fun e w'=>e = .returned (.agg #[.bool r1,.string r2,.string r3])∧Below w.heap.size w w'
 less:p1≠q1→x*g<y*d→∀ w an ln cn ad ld cd,LimV w an ln cn (y*d - x*g)→LimV w ad ld cd (d*g)→Calls Tryz.prog 146 #[.bool q1,.slice an ln cn,.slice ad ld cd] w fun e w'=>e = .returned (.agg #[.bool r1,.string r2,.string r3])∧Below w.heap.size w w'
 more:p1≠q1→y*d≤x*g→∀ w an ln cn ad ld cd,LimV w an ln cn (x*g - y*d)→LimV w ad ld cd (d*g)→Calls Tryz.prog 146 #[.bool p1,.slice an ln cn,.slice ad ld cd] w fun e w'=>e = .returned (.agg #[.bool r1,.string r2,.string r3])∧Below w.heap.size w w'
set_option maxRecDepth 100000 in
theorem signum_any (q:Rat) (w:World) :
  Calls Tryz.prog 72 #[.agg #[.bool (rn q),.string (rs q),.string (rd q)]] w fun e w'=>e = .returned (.int .i64 (sg q))∧Below w.heap.size w w':=by
 by_cases h:nm q=0
 ·have e:=nm_zero.mp h
  subst e
  rw [sg_zero h,rn_zero,rs_zero,rd_zero]
  clear h
  go_enter Tryz.func72,Tryz.ntmps72
  go_wp2
  go_ret
  exact ⟨rfl,(Below.refl _ _).alloc (Nat.le_refl _) _⟩
 ·obtain ⟨h1,h2⟩:=bn_ne (x:=nm q) (by omega)
  have e:rs q=bn (nm q):=rfl
  rw [e]
  generalize bn (nm q)=t at *
  cases hn:rn q
  ·rw [sg_pos hn h]
   clear h hn e
   go_enter Tryz.func72,Tryz.ntmps72
   go_wp2
   go_ret
   exact ⟨rfl,(Below.refl _ _).alloc (Nat.le_refl _) _⟩
  ·rw [sg_neg hn]
   clear h hn e
   go_enter Tryz.func72,Tryz.ntmps72
   go_wp2
   go_ret
   exact ⟨rfl,(Below.refl _ _).alloc (Nat.le_refl _) _⟩
def ltB (p q:Rat):Bool:=decide (p<q)
def lesR (p q:Rat):Rat:=if q<p then q else p
set_option maxRecDepth 100000 in
theorem rsign_any (n:Bool) (s d:ByteArray) (w:World) (hs:s.size≤134217728) (hd:d.size≤134217728) :
  Calls Tryz.prog 81 #[.agg #[.bool n,.string s,.string d]] w fun e w'=>e = .returned (.int .i64 (sg (rq n s d)))∧Below w.heap.size w w':=by
 have HC:=Lib.hid (fun w=>fix_agg n s d w (by omega) (by omega))
 generalize rq n s d=q at *
 have HS:=Lib.hid (fun w=>signum_any q w)
 generalize sg q=i at *
 go_enter Tryz.func81,Tryz.ntmps81
 go_wp2_with fail
 refine (HC.out _).mono ?_; rintro e w3 ⟨rfl,hb3⟩
 go_wp2_with fail
 refine (HS.out _).mono ?_; rintro e w4 ⟨rfl,hb4⟩
 obtain ⟨H2,HB⟩:=boxes1 (chain hb3 hb4 (Nat.le_refl _))
 have HB:=Lib.hid HB
 clear hb3 hb4
 go_wp2
 go_ret
 exact ⟨rfl,HB.out⟩
set_option maxRecDepth 100000 in
theorem size_any (i:Int) (w:World) (h1 : -9223372036854775808≤i) (h2:i≤9223372036854775807) :
  Calls Tryz.prog 112 #[.int .i64 i] w fun e w'=>e = .returned (.int .u64 (i.natAbs:Int))∧w=w':=by
 by_cases h:i<0
 ·have e1:IntKind.u64.wrap (IntKind.u64.wrap (-(i+1))+1)=((i.natAbs:Nat):Int):=by
   simp only [IntKind.wrap,IntKind.bits,IntKind.signed]; simp; omega
  have HE:=Lib.hid e1
  have h3 : -(i+1)≤9223372036854775807:=by omega
  have h4:0≤-(i+1):=by omega
  have h5 : -(i+1)+1=(i.natAbs:Int):=by omega
  have HF:=Lib.hid h5
  clear h5 e1
  go_enter Tryz.func112,Tryz.ntmps112
  go_wp2
  go_ret
  exact ⟨ret_int (by first | exact HF.out | exact HE.out | omega),rfl⟩
 ·have e1:i=((i.natAbs:Nat):Int):=by omega
  have HE:=Lib.hid e1
  have h0:0≤i:=by omega
  clear e1
  go_enter Tryz.func112,Tryz.ntmps112
  go_wp2
  go_ret
  exact ⟨ret_int (by omega),rfl⟩
set_option maxRecDepth 100000 in
theorem rint_any (i:Int) (w:World) (h1 : -9223372036854775808≤i) (h2:i≤9223372036854775807) :
  Calls Tryz.prog 63 #[.int .i64 i] w fun e w'=>e = .returned (.agg #[.bool (rn (i:Rat)),.string (rs (i:Rat)),.string (rd (i:Rat))])∧Below w.heap.size w w':=by
 have e1:rn (i:Rat)=decide (i<0):=rfl
 have e2:rs (i:Rat)=bn i.natAbs:=rfl
 have e3:rd (i:Rat)=⟨#[]⟩:=rfl
 rw [e1,e2,e3]
 have HS:=Lib.hid (fun w=>size_any i w h1 h2)
 have HF:=Lib.hid (fun w=>rfromUint_any i.natAbs w (by omega))
 generalize bn i.natAbs=t at *
 generalize (i.natAbs:Int)=j at *
 clear e1 e2 e3
 go_enter Tryz.func63,Tryz.ntmps63
 go_wp2_with fail
 refine (HS.out _).mono ?_; rintro e w3 ⟨rfl,rfl⟩
 go_wp2_with fail
 refine (HF.out _).mono ?_; rintro e w3 ⟨rfl,hb3⟩
 obtain ⟨H2,HB⟩:=boxes1 hb3
 obtain ⟨b0,b1,b2,f0,f1,f2⟩:=H2.get3
 have HB:=Lib.hid HB
 have H2:=Lib.hid H2
 clear hb3
 go_wp2
 refine bodyPost_forget (fun W=>Blk W (w.heap.size) #[.bool (decide (i<0)),.string t,.string ⟨#[]⟩]∧Below w.heap.size w W) ⟨by exact Blk.set3 H2.out _ _ _,below_set3 HB.out (by omega) _ _ _⟩ ?_
 rintro WR ⟨hr9,hb9⟩
 obtain ⟨y90,y91,y92,-,-,-⟩:=hr9.get3
 exact bodyPost_ret (v:=.agg #[.bool (decide (i<0)),.string t,.string ⟨#[]⟩]) (by simp [results,Tryz.results63,go_sem,y90,y91,y92]) rfl ⟨rfl,hb9⟩
end Go.Proofs.Ins
