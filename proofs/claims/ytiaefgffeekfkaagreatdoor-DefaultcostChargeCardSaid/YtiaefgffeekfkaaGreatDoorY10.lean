/- The walk of rational.Compare. -/
import Derived.Test.YtiaefgffeekfkaaGreatDoorY6
set_option linter.unusedSimpArgs false
set_option linter.unusedVariables false
set_option maxHeartbeats 8000000
namespace Go.Proofs.Ins
open Go.RowKit
def RatAt (w:World) (b o:Nat) (n:Bool) (s d:ByteArray):Prop :=
 w.cell? ⟨b,o,none⟩=some (.bool n)∧w.cell? ⟨b,o+1,none⟩=some (.string s)∧w.cell? ⟨b,o+2,none⟩=some (.string d)
theorem str_ne {a b:ByteArray} (h:a≠b):(a.toList == b.toList)=false:=by
 rw [beq_eq_false_iff_ne]
 intro e
 rw [ByteArray.toList_eq,ByteArray.toList_eq] at e
 apply h
 obtain ⟨⟨l⟩⟩:=a
 obtain ⟨⟨m⟩⟩:=b
 simp at e
 rw [e]
theorem str_ne_one {a:ByteArray} (h:a≠⟨#[1]⟩):(a.toList == [1])=false:=by
 have:=str_ne h
 rwa [show (⟨#[1]⟩:ByteArray).toList=[1] by rw [ByteArray.toList_eq]] at this
def dnS (d:ByteArray):ByteArray:=if d.size=0 then ⟨#[1]⟩ else d
theorem dnS_zero:dnS ⟨#[]⟩=⟨#[1]⟩:=rfl
theorem dnS_pos {d:ByteArray} (h : ¬ d.size=0):dnS d=d:=by unfold dnS;rw [if_neg h]
theorem dnS_rd (q:Rat):dnS (rd q)=bn q.den:=by
 unfold rd
 by_cases h:q.den=1
 ·rw [if_pos h,h];rfl
 ·rw [if_neg h];apply dnS_pos
  intro h2
  have:=toList_of_empty h2
  rw [bn_eq_empty] at this
  have:=q.den_pos;omega
set_option maxRecDepth 100000 in
theorem den_any (n:Bool) (s d:ByteArray) (w:World) :
  Calls Tryz.prog 71 #[.agg #[.bool n,.string s,.string d]] w fun e w'=>e = .returned (.string (dnS d))∧Below w.heap.size w w':=by
 by_cases h:d.size=0
 ·obtain rfl:=toList_of_empty h
  rw [dnS_zero]
  clear h
  go_enter Tryz.func71,Tryz.ntmps71
  go_wp2
  go_ret
  exact ⟨rfl,(Below.refl _ _).alloc (Nat.le_refl _) _⟩
 ·obtain ⟨h1,h2⟩:=toList_of_pos h
  rw [dnS_pos h]
  clear h
  go_enter Tryz.func71,Tryz.ntmps71
  go_wp2
  go_ret
  exact ⟨rfl,(Below.refl _ _).alloc (Nat.le_refl _) _⟩
def vldB (n:Bool) (s d:ByteArray):Bool:=decide (vld n s d)
theorem vldB_true {n:Bool} {s d:ByteArray} (h:vld n s d):vldB n s d=true:=decide_eq_true h
theorem vldB_false {n:Bool} {s d:ByteArray} (h : ¬ vld n s d):vldB n s d=false:=decide_eq_false h
set_option maxRecDepth 100000 in
theorem valid_1 (n:Bool) (s d:ByteArray) (w:World) (hs:s.size≤1073741824) (h : ¬ bn (nv s)=s) :
  Calls Tryz.prog 116 #[.agg #[.bool n,.string s,.string d]] w fun e w'=>e = .returned (.bool false)∧Below w.heap.size w w':=by
 have hN : ∀ w,Calls Tryz.prog 117 #[.string s] w fun e w'=>e = .returned (.string (bn (nv s)))∧w=w':=fun w=>normalize_any s w (by omega)
 generalize bn (nv s)=t at *
 have h1:=str_ne h
 have HN:=Lib.hid hN
 clear hN h
 go_enter Tryz.func116,Tryz.ntmps116
 go_wp2
 refine wp_forget (fun W=>RatAt W w.heap.size 0 n s d∧Below w.heap.size w W) ⟨⟨by simp [go_sem],by simp [go_sem],by simp [go_sem]⟩,(Below.refl _ _).alloc (Nat.le_refl _) _⟩ ?_
 rintro W ⟨⟨c0,c1,c2⟩,hb⟩
 have k0:=cell_regrown c0
 have k1:=cell_regrown c1
 have k2:=cell_regrown c2
 refine wp_region_qb (by kernel_rfl) (by kernel_rfl) ?_
 repeat (first|go_big_quiet_skip|quiet_step (first|with_reducible exact Calls.later_same (HN.out _)))
 refine wpQuiet_nil ?_
 intro W1 hb1
 go_wp2
 go_ret
 exact ⟨rfl,hb.trans (hb1.mono hb.size)⟩
set_option maxRecDepth 100000 in
theorem valid_2 (n:Bool) (s d:ByteArray) (w:World) (hs:s.size≤1073741824) (hd:d.size≤1073741824) (h0:bn (nv s)=s) (h : ¬ bn (nv d)=d) :
  Calls Tryz.prog 116 #[.agg #[.bool n,.string s,.string d]] w fun e w'=>e = .returned (.bool false)∧Below w.heap.size w w':=by
 have hM : ∀ w,Calls Tryz.prog 117 #[.string s] w fun e w'=>e = .returned (.string s)∧w=w':=fun w=>by
  have:=normalize_any s w (by omega);rw [h0] at this;exact this
 have hN : ∀ w,Calls Tryz.prog 117 #[.string d] w fun e w'=>e = .returned (.string (bn (nv d)))∧w=w':=fun w=>normalize_any d w (by omega)
 generalize bn (nv d)=t at *
 have h1:=str_ne h
 have HN:=Lib.hid hN
 have HM:=Lib.hid hM
 clear hN hM h h0
 go_enter Tryz.func116,Tryz.ntmps116
 go_wp2
 refine wp_forget (fun W=>RatAt W w.heap.size 0 n s d∧Below w.heap.size w W) ⟨⟨by simp [go_sem],by simp [go_sem],by simp [go_sem]⟩,(Below.refl _ _).alloc (Nat.le_refl _) _⟩ ?_
 rintro W ⟨⟨c0,c1,c2⟩,hb⟩
 have k0:=cell_regrown c0
 have k1:=cell_regrown c1
 have k2:=cell_regrown c2
 refine wp_region_qb (by kernel_rfl) (by kernel_rfl) ?_
 repeat (first|go_big_quiet_skip|quiet_step (first|with_reducible exact Calls.later_same (HM.out _)|with_reducible exact Calls.later_same (HN.out _)))
 refine wpQuiet_nil ?_
 intro W1 hb1
 go_wp2
 go_ret
 exact ⟨rfl,hb.trans (hb1.mono hb.size)⟩
set_option maxRecDepth 100000 in
theorem valid_3 (n:Bool) (d:ByteArray) (w:World) (hd:d.size≤1073741824) (h:bn (nv d)=d) :
  Calls Tryz.prog 116 #[.agg #[.bool n,.string ⟨#[]⟩,.string d]] w fun e w'=>e = .returned (.bool (!n && decide (d.size=0)))∧Below w.heap.size w w':=by
 have hM : ∀ w,Calls Tryz.prog 117 #[.string ⟨#[]⟩] w fun e w'=>e = .returned (.string ⟨#[]⟩)∧w=w':=fun w=>normalize_any ⟨#[]⟩ w (by decide)
 have hN : ∀ w,Calls Tryz.prog 117 #[.string d] w fun e w'=>e = .returned (.string d)∧w=w':=fun w=>by
  have:=normalize_any d w (by omega);rw [h] at this;exact this
 have HN:=Lib.hid hN
 have HM:=Lib.hid hM
 clear hN hM h
 by_cases h0:d.size=0
 ·obtain rfl:=toList_of_empty h0
  have e1:(!n && decide ((⟨#[]⟩:ByteArray).size=0)) = !n:=by cases n <;> rfl
  rw [e1]
  clear h0 hd e1
  cases n
  all_goals
   go_enter Tryz.func116,Tryz.ntmps116
   go_wp2
   refine wp_forget (fun W=>RatAt W w.heap.size 0 _ ⟨#[]⟩ ⟨#[]⟩∧Below w.heap.size w W) ⟨⟨by simp [go_sem];rfl,by simp [go_sem],by simp [go_sem]⟩,(Below.refl _ _).alloc (Nat.le_refl _) _⟩ ?_
   rintro W ⟨⟨c0,c1,c2⟩,hb⟩
   have k0:=cell_regrown c0
   have k1:=cell_regrown c1
   have k2:=cell_regrown c2
   refine wp_region_qb (by kernel_rfl) (by kernel_rfl) ?_
   repeat (first|go_big_quiet_skip|quiet_step (first|with_reducible exact Calls.later_same (HM.out _)))
   refine wpQuiet_nil ?_
   intro W1 hb1
   have hlt:=block_lt_of_cell c0
   have g0:=(hb1.cell hlt).trans c0
   have g1:=(hb1.cell (p:=⟨w.heap.size,0+1,none⟩) hlt).trans c1
   have g2:=(hb1.cell (p:=⟨w.heap.size,0+2,none⟩) hlt).trans c2
   go_wp2
   go_ret
   exact ⟨rfl,hb.trans (hb1.mono hb.size)⟩
 ·obtain ⟨h1,h2⟩:=toList_of_pos h0
  have e1:(!n && decide (d.size=0))=false:=by rw [decide_eq_false h0];cases n <;> rfl
  rw [e1]
  clear h0 hd e1
  cases n
  all_goals
   go_enter Tryz.func116,Tryz.ntmps116
   go_wp2
   refine wp_forget (fun W=>RatAt W w.heap.size 0 _ ⟨#[]⟩ d∧Below w.heap.size w W) ⟨⟨by simp [go_sem];rfl,by simp [go_sem],by simp [go_sem]⟩,(Below.refl _ _).alloc (Nat.le_refl _) _⟩ ?_
   rintro W ⟨⟨c0,c1,c2⟩,hb⟩
   have k0:=cell_regrown c0
   have k1:=cell_regrown c1
   have k2:=cell_regrown c2
   refine wp_region_qb (by kernel_rfl) (by kernel_rfl) ?_
   repeat (first|go_big_quiet_skip|quiet_step (first|with_reducible exact Calls.later_same (HM.out _)|with_reducible exact Calls.later_same (HN.out _)))
   refine wpQuiet_nil ?_
   intro W1 hb1
   have hlt:=block_lt_of_cell c0
   have g0:=(hb1.cell hlt).trans c0
   have g1:=(hb1.cell (p:=⟨w.heap.size,0+1,none⟩) hlt).trans c1
   have g2:=(hb1.cell (p:=⟨w.heap.size,0+2,none⟩) hlt).trans c2
   go_wp2
   go_ret
   exact ⟨rfl,hb.trans (hb1.mono hb.size)⟩
set_option maxRecDepth 100000 in
theorem valid_4 (n:Bool) (s:ByteArray) (w:World) (hs:s.size≤1073741824) (h:bn (nv s)=s) (h0 : ¬ s.size=0) :
  Calls Tryz.prog 116 #[.agg #[.bool n,.string s,.string ⟨#[]⟩]] w fun e w'=>e = .returned (.bool true)∧Below w.heap.size w w':=by
 have hM : ∀ w,Calls Tryz.prog 117 #[.string ⟨#[]⟩] w fun e w'=>e = .returned (.string ⟨#[]⟩)∧w=w':=fun w=>normalize_any ⟨#[]⟩ w (by decide)
 have hN : ∀ w,Calls Tryz.prog 117 #[.string s] w fun e w'=>e = .returned (.string s)∧w=w':=fun w=>by
  have:=normalize_any s w (by omega);rw [h] at this;exact this
 have HN:=Lib.hid hN
 have HM:=Lib.hid hM
 obtain ⟨h1,h2⟩:=toList_of_pos h0
 clear hN hM h h0
 go_enter Tryz.func116,Tryz.ntmps116
 go_wp2
 refine wp_forget (fun W=>RatAt W w.heap.size 0 n s ⟨#[]⟩∧Below w.heap.size w W) ⟨⟨by simp [go_sem],by simp [go_sem],by simp [go_sem]⟩,(Below.refl _ _).alloc (Nat.le_refl _) _⟩ ?_
 rintro W ⟨⟨c0,c1,c2⟩,hb⟩
 have k0:=cell_regrown c0
 have k1:=cell_regrown c1
 have k2:=cell_regrown c2
 refine wp_region_qb (by kernel_rfl) (by kernel_rfl) ?_
 repeat (first|go_big_quiet_skip|quiet_step (first|with_reducible exact Calls.later_same (HM.out _)|with_reducible exact Calls.later_same (HN.out _)))
 refine wpQuiet_nil ?_
 intro W1 hb1
 have hlt:=block_lt_of_cell c0
 have g0:=(hb1.cell hlt).trans c0
 have g1:=(hb1.cell (p:=⟨w.heap.size,0+1,none⟩) hlt).trans c1
 have g2:=(hb1.cell (p:=⟨w.heap.size,0+2,none⟩) hlt).trans c2
 go_wp2
 go_ret
 exact ⟨rfl,hb.trans (hb1.mono hb.size)⟩
set_option maxRecDepth 100000 in
theorem valid_5 (n:Bool) (s:ByteArray) (w:World) (hs:s.size≤1073741824) (h:bn (nv s)=s) (h0 : ¬ s.size=0) :
  Calls Tryz.prog 116 #[.agg #[.bool n,.string s,.string ⟨#[1]⟩]] w fun e w'=>e = .returned (.bool false)∧Below w.heap.size w w':=by
 have hM : ∀ w,Calls Tryz.prog 117 #[.string ⟨#[1]⟩] w fun e w'=>e = .returned (.string ⟨#[1]⟩)∧w=w':=fun w=>by
  have:=normalize_any ⟨#[1]⟩ w (by decide);rw [show nv ⟨#[1]⟩=1 by decide,bn_one] at this;exact this
 have hN : ∀ w,Calls Tryz.prog 117 #[.string s] w fun e w'=>e = .returned (.string s)∧w=w':=fun w=>by
  have:=normalize_any s w (by omega);rw [h] at this;exact this
 have HN:=Lib.hid hN
 have HM:=Lib.hid hM
 obtain ⟨h1,h2⟩:=toList_of_pos h0
 clear hN hM h h0
 go_enter Tryz.func116,Tryz.ntmps116
 go_wp2
 refine wp_forget (fun W=>RatAt W w.heap.size 0 n s ⟨#[1]⟩∧Below w.heap.size w W) ⟨⟨by simp [go_sem],by simp [go_sem],by simp [go_sem]⟩,(Below.refl _ _).alloc (Nat.le_refl _) _⟩ ?_
 rintro W ⟨⟨c0,c1,c2⟩,hb⟩
 have k0:=cell_regrown c0
 have k1:=cell_regrown c1
 have k2:=cell_regrown c2
 refine wp_region_qb (by kernel_rfl) (by kernel_rfl) ?_
 repeat (first|go_big_quiet_skip|quiet_step (first|with_reducible exact Calls.later_same (HM.out _)|with_reducible exact Calls.later_same (HN.out _)))
 refine wpQuiet_nil ?_
 intro W1 hb1
 have hlt:=block_lt_of_cell c0
 have g0:=(hb1.cell hlt).trans c0
 have g1:=(hb1.cell (p:=⟨w.heap.size,0+1,none⟩) hlt).trans c1
 have g2:=(hb1.cell (p:=⟨w.heap.size,0+2,none⟩) hlt).trans c2
 go_wp2
 go_ret
 exact ⟨rfl,hb.trans (hb1.mono hb.size)⟩
theorem eq_one_iff (x:Nat):((bn x).toList == [1])=decide (x=1):=by
 by_cases h:x=1
 ·subst h;rw [bn_one,decide_eq_true rfl,ByteArray.toList_eq];rfl
 ·rw [decide_eq_false h];exact str_ne_one (fun e=>h (bn_inj (e.trans bn_one.symm)))
set_option maxRecDepth 100000 in
theorem valid_6 (n:Bool) (s d:ByteArray) (w:World) (hs:s.size≤1073741824) (hd:d.size≤1073741824) (h:bn (nv s)=s) (h0 : ¬ s.size=0) (hd1:bn (nv d)=d) (hd0 : ¬ d.size=0) (hd2:d≠⟨#[1]⟩) :
  Calls Tryz.prog 116 #[.agg #[.bool n,.string s,.string d]] w fun e w'=>e = .returned (.bool (decide (Nat.gcd (nv s) (nv d)=1)))∧Below w.heap.size w w':=by
 have hM : ∀ w,Calls Tryz.prog 117 #[.string d] w fun e w'=>e = .returned (.string d)∧w=w':=fun w=>by
  have:=normalize_any d w (by omega);rw [hd1] at this;exact this
 have hN : ∀ w,Calls Tryz.prog 117 #[.string s] w fun e w'=>e = .returned (.string s)∧w=w':=fun w=>by
  have:=normalize_any s w (by omega);rw [h] at this;exact this
 have HN:=Lib.hid hN
 have HM:=Lib.hid hM
 obtain ⟨h1,h2⟩:=toList_of_pos h0
 obtain ⟨h3,h4⟩:=toList_of_pos hd0
 have h5:=str_ne_one hd2
 have HE:=Lib.hid (eq_one_iff (Nat.gcd (nv s) (nv d)))
 clear hN hM h h0 hd0 hd1 hd2
 go_enter Tryz.func116,Tryz.ntmps116
 go_wp2
 refine wp_forget (fun W=>RatAt W w.heap.size 0 n s d∧Below w.heap.size w W) ⟨⟨by simp [go_sem],by simp [go_sem],by simp [go_sem]⟩,(Below.refl _ _).alloc (Nat.le_refl _) _⟩ ?_
 rintro W ⟨⟨c0,c1,c2⟩,hb⟩
 have k0:=cell_regrown c0
 have k1:=cell_regrown c1
 have k2:=cell_regrown c2
 refine wp_region_qb (by kernel_rfl) (by kernel_rfl) ?_
 repeat (first|go_big_quiet_skip|quiet_step (first|with_reducible exact Calls.later_same (HM.out _)|with_reducible exact Calls.later_same (HN.out _)))
 refine wpQuiet_nil ?_
 intro W1 hb1
 have hlt:=block_lt_of_cell c0
 have g0:=(hb1.cell hlt).trans c0
 have g1:=(hb1.cell (p:=⟨w.heap.size,0+1,none⟩) hlt).trans c1
 have g2:=(hb1.cell (p:=⟨w.heap.size,0+2,none⟩) hlt).trans c2
 go_wp2_with fail
 refine (gcd_any s d _ hs hd).mono ?_;rintro e w3 ⟨rfl,hb3⟩
 go_wp2
 go_ret
 have hz:=hb.size
 have hz1:=hb1.size
 exact ⟨ret_bool HE.out,hb.trans ((hb1.mono hz).trans (hb3.mono (by omega)))⟩
theorem nv_pos {s:ByteArray} (h:bn (nv s)=s) (h0 : ¬ s.size=0):nv s≠0:=by
 intro e
 rw [e] at h
 apply h0
 rw [← h];rfl
theorem valid_any (n:Bool) (s d:ByteArray) (w:World) (hs:s.size≤1073741824) (hd:d.size≤1073741824) :
  Calls Tryz.prog 116 #[.agg #[.bool n,.string s,.string d]] w fun e w'=>e = .returned (.bool (vldB n s d))∧Below w.heap.size w w':=by
 by_cases h1:bn (nv s)=s
 ·by_cases h2:bn (nv d)=d
  ·by_cases h3:s.size=0
   ·obtain rfl:=toList_of_empty h3
    have e:vldB n ⟨#[]⟩ d=(!n && decide (d.size=0)):=by
     by_cases h4:d.size=0
     ·obtain rfl:=toList_of_empty h4
      cases n
      ·exact vldB_true ⟨h1,h2,fun _=>⟨rfl,rfl⟩,.inl rfl⟩
      ·exact vldB_false fun h=>by have:=(h.2.2.1 rfl).1;exact absurd this (by decide)
     ·rw [decide_eq_false h4,Bool.and_false]
      exact vldB_false fun h=>nv_pos h2 h4 (h.2.2.1 rfl).2
    rw [e];exact valid_3 n d w hd h2
   ·have n1:=nv_pos h1 h3
    by_cases h4:d.size=0
    ·obtain rfl:=toList_of_empty h4
     rw [vldB_true ⟨h1,h2,fun h=>absurd h n1,.inl rfl⟩]
     exact valid_4 n s w hs h1 h3
    ·have n2:=nv_pos h2 h4
     by_cases h5:d=⟨#[1]⟩
     ·subst h5
      rw [vldB_false fun h=>by
       have e1:nv ⟨#[1]⟩=1:=rfl
       rcases h.2.2.2 with h6|⟨h6,_⟩
       ·rw [e1] at h6;exact absurd h6 (by decide)
       ·exact h6 e1]
      exact valid_5 n s w hs h1 h3
     ·have n3:nv d≠1:=fun e=>h5 (by rw [← h2,e,bn_one])
      have e:vldB n s d=decide (Nat.gcd (nv s) (nv d)=1):=by
       by_cases h6:Nat.gcd (nv s) (nv d)=1
       ·rw [decide_eq_true h6];exact vldB_true ⟨h1,h2,fun h=>absurd h n1,.inr ⟨n3,h6⟩⟩
       ·rw [decide_eq_false h6];exact vldB_false fun h=>by
         rcases h.2.2.2 with h7|⟨_,h7⟩
         ·exact n2 h7
         ·exact h6 h7
      rw [e];exact valid_6 n s d w hs hd h1 h3 h2 h4 h5
  ·rw [vldB_false fun h=>h2 h.2.1];exact valid_2 n s d w hs hd h1 h2
 ·rw [vldB_false fun h=>h1 h.1];exact valid_1 n s d w hs h1
def rv (q:Rat):Value:=.agg #[.bool (rn q),.string (rs q),.string (rd q)]
theorem rv_vld {n:Bool} {s d:ByteArray} (h:vld n s d):rv (rq n s d) = .agg #[.bool n,.string s,.string d]:=by
 obtain ⟨e1,e2,e3⟩:=vld_fields h
 unfold rv;rw [e1,e2,e3]
theorem rv_bad {n:Bool} {s d:ByteArray} (h : ¬ vld n s d):rv (rq n s d) = .agg #[.bool false,.string ⟨#[]⟩,.string ⟨#[]⟩]:=by
 rw [rq_bad h];rfl
set_option maxRecDepth 100000 in
theorem clean_any (n:Bool) (s d:ByteArray) (w:World) (hs:s.size≤1073741824) (hd:d.size≤1073741824) :
  Calls Tryz.prog 67 #[.agg #[.bool n,.string s,.string d]] w fun e w'=>e = .returned (rv (rq n s d))∧Below w.heap.size w w':=by
 have hv:=fun w=>valid_any n s d w hs hd
 by_cases h:vld n s d
 ·rw [rv_vld h]
  rw [vldB_true h] at hv
  have HV:=Lib.hid hv
  clear h hv
  go_enter Tryz.func67,Tryz.ntmps67
  go_wp2_with fail
  refine (HV.out _).mono ?_;rintro e w3 ⟨rfl,hb3⟩
  obtain ⟨H1,H2,HB⟩:=boxes2 hb3
  obtain ⟨a0,a1,a2,-,-,-⟩:=H1.get3
  obtain ⟨b0,b1,b2,f0,f1,f2⟩:=H2.get3
  have HB:=Lib.hid HB
  have H2:=Lib.hid H2
  clear hb3 H1
  go_wp2
  refine bodyPost_forget (fun W=>Blk W (w.heap.size+1) #[.bool n,.string s,.string d]∧Below w.heap.size w W) ⟨by exact Blk.set3 H2.out _ _ _,below_set3 HB.out (by omega) _ _ _⟩ ?_
  rintro WR ⟨hr9,hb9⟩
  obtain ⟨y90,y91,y92,-,-,-⟩:=hr9.get3
  exact bodyPost_ret (v:=.agg #[.bool n,.string s,.string d]) (by simp [results,Tryz.results67,go_sem,y90,y91,y92]) rfl ⟨rfl,hb9⟩
 ·rw [rv_bad h]
  rw [vldB_false h] at hv
  have HV:=Lib.hid hv
  clear h hv
  go_enter Tryz.func67,Tryz.ntmps67
  go_wp2_with fail
  refine (HV.out _).mono ?_;rintro e w3 ⟨rfl,hb3⟩
  obtain ⟨H1,H2,HB⟩:=boxes2 hb3
  obtain ⟨a0,a1,a2,-,-,-⟩:=H1.get3
  obtain ⟨b0,b1,b2,f0,f1,f2⟩:=H2.get3
  have HB:=Lib.hid HB
  have H2:=Lib.hid H2
  clear hb3 H1
  go_wp2
  refine bodyPost_forget (fun W=>Blk W (w.heap.size+1) #[.bool false,.string ⟨#[]⟩,.string ⟨#[]⟩]∧Below w.heap.size w W) ⟨by exact Blk.set3 H2.out _ _ _,below_set3 HB.out (by omega) _ _ _⟩ ?_
  rintro WR ⟨hr9,hb9⟩
  obtain ⟨y90,y91,y92,-,-,-⟩:=hr9.get3
  exact bodyPost_ret (v:=.agg #[.bool false,.string ⟨#[]⟩,.string ⟨#[]⟩]) (by simp [results,Tryz.results67,go_sem,y90,y91,y92]) rfl ⟨rfl,hb9⟩
theorem bn_ne {x:Nat} (h:0<x):(bn x).toList.isEmpty=false∧¬ (bn x).toList=[]:=by
 apply toList_of_pos
 intro e
 have:=toList_of_empty e
 rw [bn_eq_empty] at this
 omega
theorem bn_ne_one {x:Nat} (h:x≠1):((bn x).toList == [1])=false:=by rw [eq_one_iff,decide_eq_false h]
set_option maxRecDepth 100000 in
theorem reduced_zero (neg:Bool) (a b:ByteArray) (w:World) (ha:a.size≤1073741824) (hb:b.size≤1073741824) (hx:nv a=0) :
  Calls Tryz.prog 178 #[.bool neg,.string a,.string b] w fun e w'=>e = .returned (rv 0)∧Below w.heap.size w w':=by
 have hN : ∀ w,Calls Tryz.prog 117 #[.string a] w fun e w'=>e = .returned (.string ⟨#[]⟩)∧w=w':=fun w=>by
  have:=normalize_any a w (by omega);rw [hx] at this;exact this
 have HN:=Lib.hid hN
 clear hN hx
 go_enter Tryz.func178,Tryz.ntmps178
 go_wp2_with fail
 refine (HN.out _).mono ?_;rintro e w3 ⟨rfl,rfl⟩
 go_wp2_with fail
 refine (normalize_any b _ (by omega)).mono ?_;rintro e w3 ⟨rfl,rfl⟩
 go_wp2
 exact bodyPost_ret (v:=rv 0) (by simp [results,Tryz.results178,go_sem,rv,rn_zero,rs_zero,rd_zero]) rfl ⟨rfl,(Below.refl _ _).alloc (Nat.le_refl _) _⟩
theorem rv_fr {n:Bool} {x y:Nat} (hx:0<x) (hy:0<y):rv (fr n x y) = .agg #[.bool n,.string (bn (x/Nat.gcd x y)),.string (if y/Nat.gcd x y=1 then ⟨#[]⟩ else bn (y/Nat.gcd x y))]:=by
 obtain ⟨e1,e2,e3⟩:=fr_fields (n:=n) hx hy
 unfold rv;rw [e1,e2,e3]
set_option maxRecDepth 100000 in
theorem reduced_one (neg:Bool) (a b:ByteArray) (w:World) (ha:a.size≤1073741824) (hb:b.size≤1073741824) (hx:0<nv a) (hy:nv b=1) :
  Calls Tryz.prog 178 #[.bool neg,.string a,.string b] w fun e w'=>e = .returned (rv (fr neg (nv a) 1))∧Below w.heap.size w w':=by
 have hN : ∀ w,Calls Tryz.prog 117 #[.string a] w fun e w'=>e = .returned (.string (bn (nv a)))∧w=w':=fun w=>normalize_any a w (by omega)
 have hM : ∀ w,Calls Tryz.prog 117 #[.string b] w fun e w'=>e = .returned (.string ⟨#[1]⟩)∧w=w':=fun w=>by
  have:=normalize_any b w (by omega);rw [hy,bn_one] at this;exact this
 obtain ⟨h1,h2⟩:=bn_ne hx
 have e:rv (fr neg (nv a) 1) = .agg #[.bool neg,.string (bn (nv a)),.string ⟨#[]⟩]:=by
  rw [rv_fr hx (by omega),Nat.gcd_one_right,Nat.div_one,if_pos rfl]
 rw [e]
 generalize bn (nv a)=t at *
 have HN:=Lib.hid hN
 have HM:=Lib.hid hM
 clear hN hM hx hy e
 go_enter Tryz.func178,Tryz.ntmps178
 go_wp2_with fail
 refine (HN.out _).mono ?_;rintro e w3 ⟨rfl,rfl⟩
 go_wp2_with fail
 refine (HM.out _).mono ?_;rintro e w3 ⟨rfl,rfl⟩
 go_wp2
 exact bodyPost_ret (v:=.agg #[.bool neg,.string t,.string ⟨#[]⟩]) (by simp [results,Tryz.results178,go_sem]) rfl ⟨rfl,(Below.refl _ _).alloc (Nat.le_refl _) _⟩
theorem div_call (x g:Nat) (w:World) (hx:(bn x).size≤1073741824) (hg:(bn g).size≤1073741824) (h0:0<g) :
  Calls Tryz.prog 215 #[.string (bn x),.string (bn g)] w fun e w'=>e = .returned (.tuple #[.string (bn (x/g)),.string (bn (x%g)),.bool true])∧Below w.heap.size w w':=by
 have:=divideS_any (bn x) (bn g) w hx hg (by rw [nv_bn];exact h0)
 rw [nv_bn,nv_bn] at this
 exact this
set_option maxRecDepth 100000 in
theorem reduced_co (neg:Bool) (a b:ByteArray) (w:World) (ha:a.size≤1073741824) (hb:b.size≤1073741824) (hx:0<nv a) (hy:1<nv b) (hg:Nat.gcd (nv a) (nv b)=1) :
  Calls Tryz.prog 178 #[.bool neg,.string a,.string b] w fun e w'=>e = .returned (rv (fr neg (nv a) (nv b)))∧Below w.heap.size w w':=by
 have hN : ∀ w,Calls Tryz.prog 117 #[.string a] w fun e w'=>e = .returned (.string (bn (nv a)))∧w=w':=fun w=>normalize_any a w (by omega)
 have hM : ∀ w,Calls Tryz.prog 117 #[.string b] w fun e w'=>e = .returned (.string (bn (nv b)))∧w=w':=fun w=>normalize_any b w (by omega)
 have sa:=bn_size_of a
 have sb:=bn_size_of b
 obtain ⟨h1,h2⟩:=bn_ne hx
 have h3:=bn_ne_one (x:=nv b) (by omega)
 have hG : ∀ w,Calls Tryz.prog 172 #[.string (bn (nv a)),.string (bn (nv b))] w fun e w'=>e = .returned (.string ⟨#[1]⟩)∧Below w.heap.size w w':=fun w=>by
  have:=gcd_any (bn (nv a)) (bn (nv b)) w (by omega) (by omega)
  rw [nv_bn,nv_bn,hg,bn_one] at this;exact this
 have e:rv (fr neg (nv a) (nv b)) = .agg #[.bool neg,.string (bn (nv a)),.string (bn (nv b))]:=by
  rw [rv_fr hx (by omega),hg,Nat.div_one,Nat.div_one,if_neg (by omega)]
 rw [e]
 generalize bn (nv a)=t at *
 generalize bn (nv b)=u at *
 have HN:=Lib.hid hN
 have HM:=Lib.hid hM
 have HG:=Lib.hid hG
 clear hN hM hx hy e hG hg
 go_enter Tryz.func178,Tryz.ntmps178
 go_wp2_with fail
 refine (HN.out _).mono ?_;rintro e w3 ⟨rfl,rfl⟩
 go_wp2_with fail
 refine (HM.out _).mono ?_;rintro e w3 ⟨rfl,rfl⟩
 go_wp2_with fail
 refine (HG.out _).mono ?_;rintro e w3 ⟨rfl,hb3⟩
 obtain ⟨H2,HB⟩:=boxes1 hb3
 obtain ⟨b0,b1,b2,f0,f1,f2⟩:=H2.get3
 have HB:=Lib.hid HB
 have H2:=Lib.hid H2
 clear hb3
 go_wp2
 refine bodyPost_forget (fun W=>Blk W (w.heap.size) #[.bool neg,.string t,.string u]∧Below w.heap.size w W) ⟨by exact Blk.set3 H2.out _ _ _,below_set3 HB.out (by omega) _ _ _⟩ ?_
 rintro WR ⟨hr9,hb9⟩
 obtain ⟨y90,y91,y92,-,-,-⟩:=hr9.get3
 exact bodyPost_ret (v:=.agg #[.bool neg,.string t,.string u]) (by simp [results,Tryz.results178,go_sem,y90,y91,y92]) rfl ⟨rfl,hb9⟩
set_option maxRecDepth 100000 in
theorem reduced_div (neg:Bool) (a b:ByteArray) (w:World) (ha:a.size≤1073741824) (hb:b.size≤1073741824) (hx:0<nv a) (hy:1<nv b) (hg:Nat.gcd (nv a) (nv b)≠1) :
  Calls Tryz.prog 178 #[.bool neg,.string a,.string b] w fun e w'=>e = .returned (rv (fr neg (nv a) (nv b)))∧Below w.heap.size w w':=by
 have hN : ∀ w,Calls Tryz.prog 117 #[.string a] w fun e w'=>e = .returned (.string (bn (nv a)))∧w=w':=fun w=>normalize_any a w (by omega)
 have hM : ∀ w,Calls Tryz.prog 117 #[.string b] w fun e w'=>e = .returned (.string (bn (nv b)))∧w=w':=fun w=>normalize_any b w (by omega)
 have sa:=bn_size_of a
 have sb:=bn_size_of b
 obtain ⟨h1,h2⟩:=bn_ne hx
 have h3:=bn_ne_one (x:=nv b) (by omega)
 have g0:0<Nat.gcd (nv a) (nv b):=Nat.gcd_pos_of_pos_left _ hx
 have h4:=bn_ne_one hg
 have sg:(bn (Nat.gcd (nv a) (nv b))).size≤a.size:=bn_size_le (Nat.lt_of_le_of_lt (Nat.gcd_le_left _ hx) (nv_lt a))
 have hG : ∀ w,Calls Tryz.prog 172 #[.string (bn (nv a)),.string (bn (nv b))] w fun e w'=>e = .returned (.string (bn (Nat.gcd (nv a) (nv b))))∧Below w.heap.size w w':=fun w=>by
  have:=gcd_any (bn (nv a)) (bn (nv b)) w (by omega) (by omega)
  rw [nv_bn,nv_bn] at this;exact this
 have hD1:=fun w=>div_call (nv a) (Nat.gcd (nv a) (nv b)) w (by omega) (by omega) g0
 have hD2:=fun w=>div_call (nv b) (Nat.gcd (nv a) (nv b)) w (by omega) (by omega) g0
 have e:=rv_fr (n:=neg) hx (show 0<nv b by omega)
 rw [e]
 have hq:(nv b/Nat.gcd (nv a) (nv b)=1∧bn (nv b/Nat.gcd (nv a) (nv b))=⟨#[1]⟩)∨(¬ nv b/Nat.gcd (nv a) (nv b)=1∧((bn (nv b/Nat.gcd (nv a) (nv b))).toList == [1])=false):=by
  by_cases h:nv b/Nat.gcd (nv a) (nv b)=1
  ·exact .inl ⟨h,by rw [h,bn_one]⟩
  ·exact .inr ⟨h,bn_ne_one h⟩
 generalize bn (nv a%Nat.gcd (nv a) (nv b))=v1 at *
 generalize bn (nv b%Nat.gcd (nv a) (nv b))=v2 at *
 generalize bn (nv a/Nat.gcd (nv a) (nv b))=q1 at *
 generalize bn (nv b/Nat.gcd (nv a) (nv b))=q2 at *
 generalize nv b/Nat.gcd (nv a) (nv b)=z at *
 generalize bn (Nat.gcd (nv a) (nv b))=g at *
 generalize bn (nv a)=t at *
 generalize bn (nv b)=u at *
 have HN:=Lib.hid hN
 have HM:=Lib.hid hM
 have HG:=Lib.hid hG
 have HD1:=Lib.hid hD1
 have HD2:=Lib.hid hD2
 clear hN hM hx hy e hG hg hD1 hD2 g0
 rcases hq with ⟨hz,rfl⟩|⟨hz,h5⟩
 ·rw [if_pos hz]
  clear hz
  as_aux_lemma =>
  go_enter Tryz.func178,Tryz.ntmps178
  go_wp2_with fail
  refine (HN.out _).mono ?_;rintro e w3 ⟨rfl,rfl⟩
  go_wp2_with fail
  refine (HM.out _).mono ?_;rintro e w3 ⟨rfl,rfl⟩
  go_wp2_with fail
  refine (HG.out _).mono ?_;rintro e w3 ⟨rfl,hb3⟩
  go_wp2_with fail
  refine (HD1.out _).mono ?_;rintro e w4 ⟨rfl,hb4⟩
  go_wp2_with fail
  refine (HD2.out _).mono ?_;rintro e w5 ⟨rfl,hb5⟩
  obtain ⟨H2,HB⟩:=boxes1 (chain (chain hb3 hb4 (Nat.le_refl _)) hb5 (Nat.le_refl _))
  obtain ⟨b0,b1,b2,f0,f1,f2⟩:=H2.get3
  have HB:=Lib.hid HB
  have H2:=Lib.hid H2
  clear hb3 hb4 hb5
  go_wp2
  refine bodyPost_forget (fun W=>Blk W (w.heap.size) #[.bool neg,.string q1,.string ⟨#[]⟩]∧Below w.heap.size w W) ⟨by exact Blk.set3 H2.out _ _ _,below_set3 HB.out (by omega) _ _ _⟩ ?_
  rintro WR ⟨hr9,hb9⟩
  obtain ⟨y90,y91,y92,-,-,-⟩:=hr9.get3
  exact bodyPost_ret (v:=.agg #[.bool neg,.string q1,.string ⟨#[]⟩]) (by simp [results,Tryz.results178,go_sem,y90,y91,y92]) rfl ⟨rfl,hb9⟩
 ·rw [if_neg hz]
  clear hz
  as_aux_lemma =>
  go_enter Tryz.func178,Tryz.ntmps178
  go_wp2_with fail
  refine (HN.out _).mono ?_;rintro e w3 ⟨rfl,rfl⟩
  go_wp2_with fail
  refine (HM.out _).mono ?_;rintro e w3 ⟨rfl,rfl⟩
  go_wp2_with fail
  refine (HG.out _).mono ?_;rintro e w3 ⟨rfl,hb3⟩
  go_wp2_with fail
  refine (HD1.out _).mono ?_;rintro e w4 ⟨rfl,hb4⟩
  go_wp2_with fail
  refine (HD2.out _).mono ?_;rintro e w5 ⟨rfl,hb5⟩
  obtain ⟨H2,HB⟩:=boxes1 (chain (chain hb3 hb4 (Nat.le_refl _)) hb5 (Nat.le_refl _))
  obtain ⟨b0,b1,b2,f0,f1,f2⟩:=H2.get3
  have HB:=Lib.hid HB
  have H2:=Lib.hid H2
  clear hb3 hb4 hb5
  go_wp2
  refine bodyPost_forget (fun W=>Blk W (w.heap.size) #[.bool neg,.string q1,.string q2]∧Below w.heap.size w W) ⟨by exact Blk.set3 H2.out _ _ _,below_set3 HB.out (by omega) _ _ _⟩ ?_
  rintro WR ⟨hr9,hb9⟩
  obtain ⟨y90,y91,y92,-,-,-⟩:=hr9.get3
  exact bodyPost_ret (v:=.agg #[.bool neg,.string q1,.string q2]) (by simp [results,Tryz.results178,go_sem,y90,y91,y92]) rfl ⟨rfl,hb9⟩
theorem reduced_any (neg:Bool) (a b:ByteArray) (w:World) (ha:a.size≤1073741824) (hb:b.size≤1073741824) (hy:0<nv b) :
  Calls Tryz.prog 178 #[.bool neg,.string a,.string b] w fun e w'=>e = .returned (rv (fr neg (nv a) (nv b)))∧Below w.heap.size w w':=by
 rcases Nat.eq_zero_or_pos (nv a) with h|h
 ·rw [h,fr_zero];exact reduced_zero neg a b w ha hb h
 ·rcases Nat.lt_or_ge 1 (nv b) with h1|h1
  ·by_cases h2:Nat.gcd (nv a) (nv b)=1
   ·exact reduced_co neg a b w ha hb h h1 h2
   ·exact reduced_div neg a b w ha hb h h1 h2
  ·have e:nv b=1:=by omega
   rw [e];exact reduced_one neg a b w ha hb h e
theorem clean_agg (n:Bool) (s d:ByteArray) (w:World) (hs:s.size≤1073741824) (hd:d.size≤1073741824) :
  Calls Tryz.prog 67 #[.agg #[.bool n,.string s,.string d]] w fun e w'=>e = .returned (.agg #[.bool (rn (rq n s d)),.string (rs (rq n s d)),.string (rd (rq n s d))])∧Below w.heap.size w w':=clean_any n s d w hs hd
theorem reduced_agg (neg:Bool) (a b:ByteArray) (w:World) (ha:a.size≤1073741824) (hb:b.size≤1073741824) (hy:0<nv b) :
  Calls Tryz.prog 178 #[.bool neg,.string a,.string b] w fun e w'=>e = .returned (.agg #[.bool (rn (fr neg (nv a) (nv b))),.string (rs (fr neg (nv a) (nv b))),.string (rd (fr neg (nv a) (nv b)))])∧Below w.heap.size w w':=reduced_any neg a b w ha hb hy
theorem sm_raw (n:Bool) (s d:ByteArray):Sm (s.size+d.size+1) (rq n s d):=sm_rq (by omega) (by omega) (by omega)
def rvB (q:Rat) (b:Bool):Value:=.tuple #[.agg #[.bool (rn q),.string (rs q),.string (rd q)],.bool b]
set_option maxRecDepth 100000 in
theorem make_no (neg:Bool) (a b:ByteArray) (w:World) (hb:b.size≤1073741824) (hy:nv b=0) :
  Calls Tryz.prog 286 #[.bool neg,.string a,.string b] w fun e w'=>e = .returned (rvB 0 false)∧Below w.heap.size w w':=by
 have hN : ∀ w,Calls Tryz.prog 117 #[.string b] w fun e w'=>e = .returned (.string ⟨#[]⟩)∧w=w':=fun w=>by
  have:=normalize_any b w (by omega);rw [hy] at this;exact this
 have HN:=Lib.hid hN
 clear hN hy
 go_enter Tryz.func286,Tryz.ntmps286
 go_wp2_with fail
 refine (HN.out _).mono ?_;rintro e w3 ⟨rfl,rfl⟩
 go_wp2
 exact bodyPost_ret (v:=rvB 0 false) (by simp [results,Tryz.results286,go_sem,rvB,rn_zero,rs_zero,rd_zero]) rfl ⟨rfl,(Below.refl _ _).alloc (Nat.le_refl _) _⟩
set_option maxRecDepth 100000 in
theorem make_yes (neg:Bool) (a b:ByteArray) (w:World) (ha:a.size≤1073741824) (hb:b.size≤1073741824) (hy:0<nv b) :
  Calls Tryz.prog 286 #[.bool neg,.string a,.string b] w fun e w'=>e = .returned (rvB (fr neg (nv a) (nv b)) true)∧Below w.heap.size w w':=by
 obtain ⟨h1,h2⟩:=bn_ne hy
 have HR:=Lib.hid (fun w=>reduced_agg neg a b w ha hb hy)
 have HN:=Lib.hid (fun w=>normalize_any b w (show b.size≤9223372036854775807 by omega))
 generalize bn (nv b)=t at *
 generalize fr neg (nv a) (nv b)=q at *
 clear hy
 go_enter Tryz.func286,Tryz.ntmps286
 go_wp2_with fail
 refine (HN.out _).mono ?_;rintro e w3 ⟨rfl,rfl⟩
 go_wp2_with fail
 refine (HR.out _).mono ?_;rintro e w3 ⟨rfl,hb3⟩
 obtain ⟨H2,HB⟩:=boxes1 hb3
 obtain ⟨b0,b1,b2,f0,f1,f2⟩:=H2.get3
 have HB:=Lib.hid HB
 have H2:=Lib.hid H2
 clear hb3
 go_wp2
 refine bodyPost_forget (fun W=>Blk W w.heap.size #[.bool (rn q),.string (rs q),.string (rd q)]∧Below w.heap.size w W) ⟨by exact Blk.set3 H2.out _ _ _,below_set3 HB.out (by omega) _ _ _⟩ ?_
 rintro WR ⟨hr9,hb9⟩
 obtain ⟨r0,r1,r2,-,-,-⟩:=hr9.get3
 exact bodyPost_ret (v:=rvB q true) (by simp [results,Tryz.results286,go_sem,r0,r1,r2,rvB]) rfl ⟨rfl,hb9⟩
set_option maxRecDepth 100000 in
theorem magnitude_any (i:Int) (w:World) (h1 : -9223372036854775808≤i) (h2:i≤9223372036854775807) :
  Calls Tryz.prog 231 #[.int .i64 i] w fun e w'=>e = .returned (.string (bn i.natAbs))∧Below w.heap.size w w':=by
 by_cases h:i<0
 ·have e1:IntKind.u64.wrap (-IntKind.u64.wrap i)=((i.natAbs:Nat):Int):=by
   simp only [IntKind.wrap,IntKind.bits,IntKind.signed];simp;omega
  have HF:=Lib.hid (fun w=>fromUint_any i.natAbs w (by omega))
  go_enter Tryz.func231,Tryz.ntmps231
  go_wp2_with fail
  refine (HF.out _).mono ?_;rintro e w3 ⟨rfl,hb3⟩
  go_wp2
  go_ret
  exact ⟨rfl,hb3⟩
 ·have e1:IntKind.u64.wrap i=((i.natAbs:Nat):Int):=by
   simp only [IntKind.wrap,IntKind.bits,IntKind.signed];simp;omega
  have HF:=Lib.hid (fun w=>fromUint_any i.natAbs w (by omega))
  go_enter Tryz.func231,Tryz.ntmps231
  go_wp2_with fail
  refine (HF.out _).mono ?_;rintro e w3 ⟨rfl,hb3⟩
  go_wp2
  go_ret
  exact ⟨rfl,hb3⟩
theorem fr_int (i:Int):fr (decide (i<0)) i.natAbs 1=(i:Rat):=by
 unfold fr;rw [sgn_self]
 exact (Rat.mkRat_self (i:Rat))
set_option maxRecDepth 100000 in
theorem int_any (i:Int) (w:World) (h1 : -9223372036854775808≤i) (h2:i≤9223372036854775807) :
  Calls Tryz.prog 198 #[.int .i64 i] w fun e w'=>e = .returned (.agg #[.bool (rn (i:Rat)),.string (rs (i:Rat)),.string (rd (i:Rat))])∧Below w.heap.size w w':=by
 have hsz:(bn i.natAbs).size≤8:=bn_size_le (by omega)
 have hR : ∀ w,Calls Tryz.prog 178 #[.bool (decide (i<0)),.string (bn i.natAbs),.string ⟨#[1]⟩] w fun e w'=>e = .returned (.agg #[.bool (rn (i:Rat)),.string (rs (i:Rat)),.string (rd (i:Rat))])∧Below w.heap.size w w':=fun w=>by
  have:=reduced_agg (decide (i<0)) (bn i.natAbs) ⟨#[1]⟩ w (by omega) (by decide) (by decide)
  rw [nv_bn,show nv ⟨#[1]⟩=1 by decide,fr_int] at this
  exact this
 have HF:=Lib.hid (fun w=>magnitude_any i w h1 h2)
 generalize bn i.natAbs=t at *
 generalize (i:Rat)=q at *
 have HR:=Lib.hid hR
 clear hR
 go_enter Tryz.func198,Tryz.ntmps198
 go_wp2_with fail
 refine (HF.out _).mono ?_;rintro e w3 ⟨rfl,hb3⟩
 go_wp2_with fail
 refine (HR.out _).mono ?_;rintro e w4 ⟨rfl,hb4⟩
 obtain ⟨H2,HB⟩:=boxes1 (chain hb3 hb4 (Nat.le_refl _))
 obtain ⟨b0,b1,b2,f0,f1,f2⟩:=H2.get3
 have HB:=Lib.hid HB
 have H2:=Lib.hid H2
 clear hb3 hb4
 go_wp2
 refine bodyPost_forget (fun W=>Blk W (w.heap.size) #[.bool (rn q),.string (rs q),.string (rd q)]∧Below w.heap.size w W) ⟨by exact Blk.set3 H2.out _ _ _,below_set3 HB.out (by omega) _ _ _⟩ ?_
 rintro WR ⟨hr9,hb9⟩
 obtain ⟨y90,y91,y92,-,-,-⟩:=hr9.get3
 exact bodyPost_ret (v:=.agg #[.bool (rn q),.string (rs q),.string (rd q)]) (by simp [results,Tryz.results198,go_sem,y90,y91,y92]) rfl ⟨rfl,hb9⟩
set_option maxRecDepth 100000 in
theorem signOf_any (q:Rat) (w:World) :
  Calls Tryz.prog 68 #[.agg #[.bool (rn q),.string (rs q),.string (rd q)]] w fun e w'=>e = .returned (.int .i64 (sg q))∧Below w.heap.size w w':=by
 by_cases h:nm q=0
 ·have e:=nm_zero.mp h
  subst e
  rw [sg_zero h,rn_zero,rs_zero,rd_zero]
  clear h
  go_enter Tryz.func68,Tryz.ntmps68
  go_wp2
  go_ret
  exact ⟨rfl,(Below.refl _ _).alloc (Nat.le_refl _) _⟩
 ·obtain ⟨h1,h2⟩:=bn_ne (x:=nm q) (by omega)
  have e:rs q=bn (nm q):=rfl
  rw [e]
  generalize bn (nm q)=t at *
  cases hn:rn q
  ·rw [sg_pos hn h]
   clear h hn e
   go_enter Tryz.func68,Tryz.ntmps68
   go_wp2
   go_ret
   exact ⟨rfl,(Below.refl _ _).alloc (Nat.le_refl _) _⟩
  ·rw [sg_neg hn]
   clear h hn e
   go_enter Tryz.func68,Tryz.ntmps68
   go_wp2
   go_ret
   exact ⟨rfl,(Below.refl _ _).alloc (Nat.le_refl _) _⟩
set_option maxRecDepth 100000 in
theorem sign_rat (n:Bool) (s d:ByteArray) (w:World) (hs:s.size≤268435456) (hd:d.size≤268435456) :
  Calls Tryz.prog 127 #[.agg #[.bool n,.string s,.string d]] w fun e w'=>e = .returned (.int .i64 (sg (rq n s d)))∧Below w.heap.size w w':=by
 have HC:=Lib.hid (fun w=>clean_agg n s d w (by omega) (by omega))
 generalize rq n s d=q at *
 have HS:=Lib.hid (fun w=>signOf_any q w)
 generalize sg q=i at *
 go_enter Tryz.func127,Tryz.ntmps127
 go_wp2_with fail
 refine (HC.out _).mono ?_;rintro e w3 ⟨rfl,hb3⟩
 go_wp2_with fail
 refine (HS.out _).mono ?_;rintro e w4 ⟨rfl,hb4⟩
 obtain ⟨H2,HB⟩:=boxes1 (chain hb3 hb4 (Nat.le_refl _))
 have HB:=Lib.hid HB
 clear hb3 hb4
 go_wp2
 go_ret
 exact ⟨rfl,HB.out⟩
theorem two_boxes (w:World) (vs us:Array Value) (T U:TypeId):Blk ((w.alloc (.cells vs T)).alloc (.cells us U)) w.heap.size vs∧Blk ((w.alloc (.cells vs T)).alloc (.cells us U)) (w.heap.size+1) us∧Below w.heap.size w ((w.alloc (.cells vs T)).alloc (.cells us U)) :=
 boxes2 (Below.refl _ _)
theorem three_boxes (w:World) (vs us ts:Array Value) (T U V:TypeId):Blk (((w.alloc (.cells vs T)).alloc (.cells us U)).alloc (.cells ts V)) w.heap.size vs∧Blk (((w.alloc (.cells vs T)).alloc (.cells us U)).alloc (.cells ts V)) (w.heap.size+1) us∧Blk (((w.alloc (.cells vs T)).alloc (.cells us U)).alloc (.cells ts V)) (w.heap.size+1+1) ts∧Below w.heap.size w (((w.alloc (.cells vs T)).alloc (.cells us U)).alloc (.cells ts V)) :=
 boxes3 (Below.refl _ _)
theorem two_stored {w W:World} {b1 b2:Nat} {v1 v2 v3 u1 u2 u3:Value} (x1 x2 x3 y1 y2 y3:Value) (h1:Blk W b1 #[v1,v2,v3]) (h2:Blk W b2 #[u1,u2,u3]) (hb:Below w.heap.size w W) (hn:b1≠b2) (l1:w.heap.size≤b1) (l2:w.heap.size≤b2) :
  Blk ((((((W.setCell ⟨b1,0,none⟩ x1).setCell ⟨b1,1,none⟩ x2).setCell ⟨b1,2,none⟩ x3).setCell ⟨b2,0,none⟩ y1).setCell ⟨b2,1,none⟩ y2).setCell ⟨b2,2,none⟩ y3) b1 #[x1,x2,x3] ∧
  Blk ((((((W.setCell ⟨b1,0,none⟩ x1).setCell ⟨b1,1,none⟩ x2).setCell ⟨b1,2,none⟩ x3).setCell ⟨b2,0,none⟩ y1).setCell ⟨b2,1,none⟩ y2).setCell ⟨b2,2,none⟩ y3) b2 #[y1,y2,y3] ∧
  Below w.heap.size w ((((((W.setCell ⟨b1,0,none⟩ x1).setCell ⟨b1,1,none⟩ x2).setCell ⟨b1,2,none⟩ x3).setCell ⟨b2,0,none⟩ y1).setCell ⟨b2,1,none⟩ y2).setCell ⟨b2,2,none⟩ y3) :=
 ⟨(h1.set3 _ _ _).set3Other hn _ _ _,(h2.set3Other hn.symm _ _ _).set3 _ _ _,below_set3 (below_set3 hb l1 _ _ _) l2 _ _ _⟩
theorem den_rat (q:Rat) (w:World):Calls Tryz.prog 71 #[.agg #[.bool (rn q),.string (rs q),.string (rd q)]] w fun e w'=>e = .returned (.string (bn q.den))∧Below w.heap.size w w':=by
 have:=den_any (rn q) (rs q) (rd q) w
 rw [dnS_rd] at this;exact this
theorem bn_small {x k:Nat} (h:x<256 ^ k) (hk:k≤1073741824):(bn x).size≤1073741824:=Nat.le_trans (bn_size_le h) hk
theorem mul_call (x y k l:Nat) (w:World) (hx:x<256 ^ k) (hy:y<256 ^ l) (hk:k≤1073741824) (hl:l≤1073741824) :
  Calls Tryz.prog 70 #[.string (bn x),.string (bn y)] w fun e w'=>e = .returned (.string (bn (x*y)))∧Below w.heap.size w w':=by
 have:=multiply_any (bn x) (bn y) w (bn_small hx hk) (bn_small hy hl)
 rw [nv_bn,nv_bn] at this;exact this
structure CmpC (p1:Bool) (p2 p3:ByteArray) (q1:Bool) (q2 q3:ByteArray) (P1 P2 X Y:ByteArray) (c σ τ:Int):Prop where
 dp : ∀ w,Calls Tryz.prog 71 #[.agg #[.bool p1,.string p2,.string p3]] w fun e w'=>e = .returned (.string P1)∧Below w.heap.size w w'
 dq : ∀ w,Calls Tryz.prog 71 #[.agg #[.bool q1,.string q2,.string q3]] w fun e w'=>e = .returned (.string P2)∧Below w.heap.size w w'
 mx : ∀ w,Calls Tryz.prog 70 #[.string p2,.string P2] w fun e w'=>e = .returned (.string X)∧Below w.heap.size w w'
 my : ∀ w,Calls Tryz.prog 70 #[.string q2,.string P1] w fun e w'=>e = .returned (.string Y)∧Below w.heap.size w w'
 cm : ∀ w,Calls Tryz.prog 69 #[.string X,.string Y] w fun e w'=>e = .returned (.int .i64 c)∧Below w.heap.size w w'
 sp : ∀ w,Calls Tryz.prog 68 #[.agg #[.bool p1,.string p2,.string p3]] w fun e w'=>e = .returned (.int .i64 σ)∧Below w.heap.size w w'
 sq : ∀ w,Calls Tryz.prog 68 #[.agg #[.bool q1,.string q2,.string q3]] w fun e w'=>e = .returned (.int .i64 τ)∧Below w.heap.size w w'
theorem cmpC_of (p q:Rat) (k l:Nat) (hp:Sm k p) (hq:Sm l q) (hkl:k+l≤1073741824) :
  CmpC (rn p) (rs p) (rd p) (rn q) (rs q) (rd q) (bn p.den) (bn q.den) (bn (nm p*q.den)) (bn (nm q*p.den)) (cmpN (nm p*q.den) (nm q*p.den)) (sg p) (sg q):=by
 have h1:=pow_mul_lt hp.1 hq.2
 have h2:=pow_mul_lt hq.1 hp.2
 refine ⟨fun w=>den_rat p w,fun w=>den_rat q w,fun w=>mul_call _ _ k l w hp.1 hq.2 (by omega) (by omega),fun w=>mul_call _ _ l k w hq.1 hp.2 (by omega) (by omega),fun w=>?_,fun w=>signOf_any p w,fun w=>signOf_any q w⟩
 have:=compareS_any (bn (nm p*q.den)) (bn (nm q*p.den)) w (bn_small h1 hkl) (bn_small h2 (by omega))
 rw [nv_bn,nv_bn] at this
 exact this.mono fun e w' ⟨he,hw⟩=>⟨he,by subst hw;exact Below.refl _ _⟩
set_option maxRecDepth 100000 in
theorem compare_rat (n1:Bool) (s1 d1:ByteArray) (n2:Bool) (s2 d2:ByteArray) (w:World) (h1:s1.size+d1.size≤268435456) (h2:s2.size+d2.size≤268435456) :
  Calls Tryz.prog 36 #[.agg #[.bool n1,.string s1,.string d1],.agg #[.bool n2,.string s2,.string d2]] w fun e w'=>e = .returned (.int .i64 (cmpR (rq n1 s1 d1) (rq n2 s2 d2)))∧Below w.heap.size w w':=by
 have HC1:=Lib.hid (fun w=>clean_agg n1 s1 d1 w (by omega) (by omega))
 have HC2:=Lib.hid (fun w=>clean_agg n2 s2 d2 w (by omega) (by omega))
 have HCC:=cmpC_of _ _ _ _ (sm_raw n1 s1 d1) (sm_raw n2 s2 d2) (by omega)
 generalize rq n1 s1 d1=p at *
 generalize rq n2 s2 d2=q at *
 have f1:sg p<sg q→cmpR p q = -1:=cmpR_sg_lt
 have f2:sg q<sg p→cmpR p q=1:=cmpR_sg_gt
 have f3:sg p=sg q→cmpR p q=if rn p=true then -(cmpN (nm p*q.den) (nm q*p.den)) else cmpN (nm p*q.den) (nm q*p.den):=cmpR_same
 have f4 : -1≤cmpN (nm p*q.den) (nm q*p.den)∧cmpN (nm p*q.den) (nm q*p.den)≤1:=by unfold cmpN;split;omega;split <;> omega
 generalize bn (nm p*q.den)=X at *
 generalize bn (nm q*p.den)=Y at *
 generalize bn p.den=P1 at *
 generalize bn q.den=P2 at *
 generalize cmpN (nm p*q.den) (nm q*p.den)=c at *
 generalize cmpR p q=R at *
 generalize sg p=σ at *
 generalize sg q=τ at *
 generalize rn p=p1 at *
 generalize rs p=p2 at *
 generalize rd p=p3 at *
 generalize rn q=q1 at *
 generalize rs q=q2 at *
 generalize rd q=q3 at *
 have F:=Lib.hid (And.intro f1 (And.intro f2 f3))
 have HD:=Lib.hid HCC
 clear f1 f2 f3 HCC
 go_enter Tryz.func36,Tryz.ntmps36
 go_wp2
 refine wp_forget (fun W=>Blk W w.heap.size #[.bool n1,.string s1,.string d1]∧Blk W (w.heap.size+1) #[.bool n2,.string s2,.string d2]∧Below w.heap.size w W) (two_boxes w _ _ _ _) ?_
 rintro W ⟨H1,H2,HB⟩
 obtain ⟨k0,k1,k2⟩:=H1.later3
 obtain ⟨k3,k4,k5⟩:=H2.later3
 refine wp_region_qbt 4 (by kernel_rfl) (by kernel_rfl) ?_
 simp only [List.take_succ_cons,List.take_zero,List.drop_succ_cons,List.drop_zero]
 repeat (first|go_big_quiet_skip|quiet_step (first|with_reducible exact Calls.later (HC1.out _)|with_reducible exact Calls.later (HC2.out _)))
 clear k0 k1 k2 k3 k4 k5
 refine wpQuiet_nil ?_
 intro W1 hb1
 have J1:=Lib.hid (H1.on hb1)
 have J2:=Lib.hid (H2.on hb1)
 have GB:=Lib.hid (chain HB hb1 (Nat.le_refl _))
 clear H1 H2 HB hb1
 obtain ⟨a0,a1,a2,a3,a4,a5⟩:=J1.out.get3
 obtain ⟨b0,b1,b2,b3,b4,b5⟩:=J2.out.get3
 go_wp2
 clear a0 a1 a2 a3 a4 a5 b0 b1 b2 b3 b4 b5
 refine wp_forget (fun W=>Blk W w.heap.size #[.bool p1,.string p2,.string p3]∧Blk W (w.heap.size+1) #[.bool q1,.string q2,.string q3]∧Below w.heap.size w W) (two_stored _ _ _ _ _ _ J1.out J2.out GB.out (by omega) (Nat.le_refl _) (by omega)) ?_
 clear J1 J2 GB
 rintro W3 ⟨H1,H2,HB⟩
 obtain ⟨k0,k1,k2⟩:=H1.later3
 obtain ⟨k3,k4,k5⟩:=H2.later3
 refine wp_region_qb (by kernel_rfl) (by kernel_rfl) ?_
 repeat (first|go_big_quiet_skip|quiet_step (first|with_reducible exact Calls.later (HD.out.sp _)|with_reducible exact Calls.later (HD.out.sq _)))
 clear k0 k1 k2 k3 k4 k5
 refine wpQuiet_nil ?_
 intro W4 hb4
 have J1:=H1.on hb4
 have J2:=H2.on hb4
 have JB:=Lib.hid (chain HB hb4 (Nat.le_refl _))
 clear H1 H2 HB hb4 HC1 HC2
 obtain ⟨a0,a1,a2,-,-,-⟩:=J1.get3
 obtain ⟨b0,b1,b2,-,-,-⟩:=J2.get3
 by_cases h:σ=τ
 ·as_aux_lemma =>
  subst h
  have hR:=F.out.2.2 rfl
  obtain ⟨c1,c2⟩:=f4
  have HR:=Lib.hid hR
  clear F hR
  go_wp2
  clear a0 a1 a2 b0 b1 b2
  obtain ⟨k0,k1,k2⟩:=J1.later3
  obtain ⟨k3,k4,k5⟩:=J2.later3
  refine wp_region_qb (by kernel_rfl) (by kernel_rfl) ?_
  repeat (first|go_big_quiet_skip|quiet_step (first|with_reducible exact Calls.later (HD.out.dp _)|with_reducible exact Calls.later (HD.out.dq _)|with_reducible exact Calls.later (HD.out.mx _)|with_reducible exact Calls.later (HD.out.my _)|with_reducible exact Calls.later (HD.out.cm _)))
  clear k0 k1 k2 k3 k4 k5
  refine wpQuiet_nil ?_
  intro W5 hb5
  have E1:=J1.on hb5
  have EB:=Lib.hid (chain JB.out hb5 (Nat.le_refl _))
  clear J2 hb5 JB
  obtain ⟨a0,a1,a2,-,-,-⟩:=E1.get3
  cases p1
  ·go_wp2
   go_ret
   exact ⟨ret_int HR.out.symm,EB.out⟩
  ·have e5:IntKind.i64.wrap (-c) = -c:=IntWalk.i64_in _ (by omega)
   go_wp2
   go_ret
   exact ⟨ret_int HR.out.symm,EB.out⟩
 ·as_aux_lemma =>
  have e1:(σ == τ)=false:=by simp [h]
  have e2:(σ != τ)=true:=by simp [h]
  by_cases h2:σ<τ
  ·have HR:=Lib.hid (F.out.1 h2)
   clear F h
   go_wp2
   go_ret
   exact ⟨ret_int HR.out.symm,JB.out⟩
  ·have HR:=Lib.hid (F.out.2.1 (by omega))
   have e3:decide (σ<τ)=false:=by simp;omega
   clear F h
   go_wp2
   go_ret
   exact ⟨ret_int HR.out.symm,JB.out⟩
end Go.Proofs.Ins
