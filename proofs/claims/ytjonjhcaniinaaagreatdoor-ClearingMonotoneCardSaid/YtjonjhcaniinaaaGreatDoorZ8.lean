/- The walk of rational.Compare. -/
import Derived.Test.YtjonjhcaniinaaaGreatDoorZ5
set_option linter.unusedSimpArgs false
set_option linter.unusedVariables false
set_option maxHeartbeats 8000000
namespace Go.Proofs.Ins
open Go.RowKit
def Gw (w:World) (b o:Nat) (n:Bool) (s d:ByteArray):Prop :=
 w.cell? ⟨b,o,none⟩=some (.bool n)∧w.cell? ⟨b,o+1,none⟩=some (.string s)∧w.cell? ⟨b,o+2,none⟩=some (.string d)
theorem MJ {a b:ByteArray} (h:a≠b):(a.toList == b.toList)=false:=by
 rw [beq_eq_false_iff_ne]
 intro e
 rw [ByteArray.toList_eq,ByteArray.toList_eq] at e
 apply h
 obtain ⟨⟨l⟩⟩:=a
 obtain ⟨⟨m⟩⟩:=b
 simp at e
 rw [e]
theorem Gx {a:ByteArray} (h:a≠⟨#[1]⟩):(a.toList == [1])=false:=by
 have:=MJ h
 rwa [show (⟨#[1]⟩:ByteArray).toList=[1] by rw [ByteArray.toList_eq]] at this
def dnS (d:ByteArray):ByteArray:=if d.size=0 then ⟨#[1]⟩ else d
theorem aaH:dnS ⟨#[]⟩=⟨#[1]⟩:=rfl
theorem VU {d:ByteArray} (h : ¬ d.size=0):dnS d=d:=by unfold dnS;rw [if_neg h]
theorem aii (q:Rat):dnS (rd q)=bn q.den:=by
 unfold rd
 by_cases h:q.den=1
 ·rw [if_pos h,h];rfl
 ·rw [if_neg h];apply VU
  intro h2
  have:=fM h2
  rw [DR] at this
  have:=q.den_pos;omega
set_option maxRecDepth 100000 in
theorem aew (n:Bool) (s d:ByteArray) (w:World) :
  Calls Tryz.prog 38 #[.agg #[.bool n,.string s,.string d]] w fun e w'=>e = .returned (.string (dnS d))∧Below w.heap.size w w':=by
 by_cases h:d.size=0
 ·obtain rfl:=fM h
  rw [aaH]
  clear h
  go_enter Tryz.func38,Tryz.ntmps38
  go_wp2
  go_ret
  exact ⟨rfl,(Below.refl _ _).alloc (Nat.le_refl _) _⟩
 ·obtain ⟨h1,h2⟩:=iD h
  rw [VU h]
  clear h
  go_enter Tryz.func38,Tryz.ntmps38
  go_wp2
  go_ret
  exact ⟨rfl,(Below.refl _ _).alloc (Nat.le_refl _) _⟩
def aaI (n:Bool) (s d:ByteArray):Bool:=decide (RI n s d)
theorem uq {n:Bool} {s d:ByteArray} (h:RI n s d):aaI n s d=true:=decide_eq_true h
theorem kX {n:Bool} {s d:ByteArray} (h : ¬ RI n s d):aaI n s d=false:=decide_eq_false h
set_option maxRecDepth 100000 in
theorem aex (n:Bool) (s d:ByteArray) (w:World) (hs:s.size≤1073741824) (h : ¬ bn (nv s)=s) :
  Calls Tryz.prog 71 #[.agg #[.bool n,.string s,.string d]] w fun e w'=>e = .returned (.bool false)∧Below w.heap.size w w':=by
 have hN : ∀ w,Calls Tryz.prog 72 #[.string s] w fun e w'=>e = .returned (.string (bn (nv s)))∧w=w':=fun w=>aQ s w (by omega)
 generalize bn (nv s)=t at *
 have h1:=MJ h
 have HN:=Lib.hid hN
 clear hN h
 go_enter Tryz.func71,Tryz.ntmps71
 go_wp2
 refine dI (fun W=>Gw W w.heap.size 0 n s d∧Below w.heap.size w W) ⟨⟨by simp [go_sem],by simp [go_sem],by simp [go_sem]⟩,(Below.refl _ _).alloc (Nat.le_refl _) _⟩ ?_
 rintro W ⟨⟨c0,c1,c2⟩,hb⟩
 have k0:=cell_regrown c0
 have k1:=cell_regrown c1
 have k2:=cell_regrown c2
 refine bK (by kernel_rfl) (by kernel_rfl) ?_
 repeat (first|go_big_quiet_skip|quiet_step (first|with_reducible exact Calls.gU (HN.out _)))
 refine wpQuiet_nil ?_
 intro W1 hb1
 go_wp2
 go_ret
 exact ⟨rfl,hb.trans (hb1.mono hb.size)⟩
set_option maxRecDepth 100000 in
theorem aey (n:Bool) (s d:ByteArray) (w:World) (hs:s.size≤1073741824) (hd:d.size≤1073741824) (h0:bn (nv s)=s) (h : ¬ bn (nv d)=d) :
  Calls Tryz.prog 71 #[.agg #[.bool n,.string s,.string d]] w fun e w'=>e = .returned (.bool false)∧Below w.heap.size w w':=by
 have hM : ∀ w,Calls Tryz.prog 72 #[.string s] w fun e w'=>e = .returned (.string s)∧w=w':=fun w=>by
  have:=aQ s w (by omega);rw [h0] at this;exact this
 have hN : ∀ w,Calls Tryz.prog 72 #[.string d] w fun e w'=>e = .returned (.string (bn (nv d)))∧w=w':=fun w=>aQ d w (by omega)
 generalize bn (nv d)=t at *
 have h1:=MJ h
 have HN:=Lib.hid hN
 have HM:=Lib.hid hM
 clear hN hM h h0
 go_enter Tryz.func71,Tryz.ntmps71
 go_wp2
 refine dI (fun W=>Gw W w.heap.size 0 n s d∧Below w.heap.size w W) ⟨⟨by simp [go_sem],by simp [go_sem],by simp [go_sem]⟩,(Below.refl _ _).alloc (Nat.le_refl _) _⟩ ?_
 rintro W ⟨⟨c0,c1,c2⟩,hb⟩
 have k0:=cell_regrown c0
 have k1:=cell_regrown c1
 have k2:=cell_regrown c2
 refine bK (by kernel_rfl) (by kernel_rfl) ?_
 repeat (first|go_big_quiet_skip|quiet_step (first|with_reducible exact Calls.gU (HM.out _)|with_reducible exact Calls.gU (HN.out _)))
 refine wpQuiet_nil ?_
 intro W1 hb1
 go_wp2
 go_ret
 exact ⟨rfl,hb.trans (hb1.mono hb.size)⟩
set_option maxRecDepth 100000 in
theorem aez (n:Bool) (d:ByteArray) (w:World) (hd:d.size≤1073741824) (h:bn (nv d)=d) :
  Calls Tryz.prog 71 #[.agg #[.bool n,.string ⟨#[]⟩,.string d]] w fun e w'=>e = .returned (.bool (!n && decide (d.size=0)))∧Below w.heap.size w w':=by
 have hM : ∀ w,Calls Tryz.prog 72 #[.string ⟨#[]⟩] w fun e w'=>e = .returned (.string ⟨#[]⟩)∧w=w':=fun w=>aQ ⟨#[]⟩ w (by decide)
 have hN : ∀ w,Calls Tryz.prog 72 #[.string d] w fun e w'=>e = .returned (.string d)∧w=w':=fun w=>by
  have:=aQ d w (by omega);rw [h] at this;exact this
 have HN:=Lib.hid hN
 have HM:=Lib.hid hM
 clear hN hM h
 by_cases h0:d.size=0
 ·obtain rfl:=fM h0
  have e1:(!n && decide ((⟨#[]⟩:ByteArray).size=0)) = !n:=by cases n <;> rfl
  rw [e1]
  clear h0 hd e1
  cases n
  all_goals
   go_enter Tryz.func71,Tryz.ntmps71
   go_wp2
   refine dI (fun W=>Gw W w.heap.size 0 _ ⟨#[]⟩ ⟨#[]⟩∧Below w.heap.size w W) ⟨⟨by simp [go_sem];rfl,by simp [go_sem],by simp [go_sem]⟩,(Below.refl _ _).alloc (Nat.le_refl _) _⟩ ?_
   rintro W ⟨⟨c0,c1,c2⟩,hb⟩
   have k0:=cell_regrown c0
   have k1:=cell_regrown c1
   have k2:=cell_regrown c2
   refine bK (by kernel_rfl) (by kernel_rfl) ?_
   repeat (first|go_big_quiet_skip|quiet_step (first|with_reducible exact Calls.gU (HM.out _)))
   refine wpQuiet_nil ?_
   intro W1 hb1
   have hlt:=block_lt_of_cell c0
   have g0:=(hb1.cell hlt).trans c0
   have g1:=(hb1.cell (p:=⟨w.heap.size,0+1,none⟩) hlt).trans c1
   have g2:=(hb1.cell (p:=⟨w.heap.size,0+2,none⟩) hlt).trans c2
   go_wp2
   go_ret
   exact ⟨rfl,hb.trans (hb1.mono hb.size)⟩
 ·obtain ⟨h1,h2⟩:=iD h0
  have e1:(!n && decide (d.size=0))=false:=by rw [decide_eq_false h0];cases n <;> rfl
  rw [e1]
  clear h0 hd e1
  cases n
  all_goals
   go_enter Tryz.func71,Tryz.ntmps71
   go_wp2
   refine dI (fun W=>Gw W w.heap.size 0 _ ⟨#[]⟩ d∧Below w.heap.size w W) ⟨⟨by simp [go_sem];rfl,by simp [go_sem],by simp [go_sem]⟩,(Below.refl _ _).alloc (Nat.le_refl _) _⟩ ?_
   rintro W ⟨⟨c0,c1,c2⟩,hb⟩
   have k0:=cell_regrown c0
   have k1:=cell_regrown c1
   have k2:=cell_regrown c2
   refine bK (by kernel_rfl) (by kernel_rfl) ?_
   repeat (first|go_big_quiet_skip|quiet_step (first|with_reducible exact Calls.gU (HM.out _)|with_reducible exact Calls.gU (HN.out _)))
   refine wpQuiet_nil ?_
   intro W1 hb1
   have hlt:=block_lt_of_cell c0
   have g0:=(hb1.cell hlt).trans c0
   have g1:=(hb1.cell (p:=⟨w.heap.size,0+1,none⟩) hlt).trans c1
   have g2:=(hb1.cell (p:=⟨w.heap.size,0+2,none⟩) hlt).trans c2
   go_wp2
   go_ret
   exact ⟨rfl,hb.trans (hb1.mono hb.size)⟩
set_option maxRecDepth 100000 in
theorem aeA (n:Bool) (s:ByteArray) (w:World) (hs:s.size≤1073741824) (h:bn (nv s)=s) (h0 : ¬ s.size=0) :
  Calls Tryz.prog 71 #[.agg #[.bool n,.string s,.string ⟨#[]⟩]] w fun e w'=>e = .returned (.bool true)∧Below w.heap.size w w':=by
 have hM : ∀ w,Calls Tryz.prog 72 #[.string ⟨#[]⟩] w fun e w'=>e = .returned (.string ⟨#[]⟩)∧w=w':=fun w=>aQ ⟨#[]⟩ w (by decide)
 have hN : ∀ w,Calls Tryz.prog 72 #[.string s] w fun e w'=>e = .returned (.string s)∧w=w':=fun w=>by
  have:=aQ s w (by omega);rw [h] at this;exact this
 have HN:=Lib.hid hN
 have HM:=Lib.hid hM
 obtain ⟨h1,h2⟩:=iD h0
 clear hN hM h h0
 go_enter Tryz.func71,Tryz.ntmps71
 go_wp2
 refine dI (fun W=>Gw W w.heap.size 0 n s ⟨#[]⟩∧Below w.heap.size w W) ⟨⟨by simp [go_sem],by simp [go_sem],by simp [go_sem]⟩,(Below.refl _ _).alloc (Nat.le_refl _) _⟩ ?_
 rintro W ⟨⟨c0,c1,c2⟩,hb⟩
 have k0:=cell_regrown c0
 have k1:=cell_regrown c1
 have k2:=cell_regrown c2
 refine bK (by kernel_rfl) (by kernel_rfl) ?_
 repeat (first|go_big_quiet_skip|quiet_step (first|with_reducible exact Calls.gU (HM.out _)|with_reducible exact Calls.gU (HN.out _)))
 refine wpQuiet_nil ?_
 intro W1 hb1
 have hlt:=block_lt_of_cell c0
 have g0:=(hb1.cell hlt).trans c0
 have g1:=(hb1.cell (p:=⟨w.heap.size,0+1,none⟩) hlt).trans c1
 have g2:=(hb1.cell (p:=⟨w.heap.size,0+2,none⟩) hlt).trans c2
 go_wp2
 go_ret
 exact ⟨rfl,hb.trans (hb1.mono hb.size)⟩
set_option maxRecDepth 100000 in
theorem aeB (n:Bool) (s:ByteArray) (w:World) (hs:s.size≤1073741824) (h:bn (nv s)=s) (h0 : ¬ s.size=0) :
  Calls Tryz.prog 71 #[.agg #[.bool n,.string s,.string ⟨#[1]⟩]] w fun e w'=>e = .returned (.bool false)∧Below w.heap.size w w':=by
 have hM : ∀ w,Calls Tryz.prog 72 #[.string ⟨#[1]⟩] w fun e w'=>e = .returned (.string ⟨#[1]⟩)∧w=w':=fun w=>by
  have:=aQ ⟨#[1]⟩ w (by decide);rw [show nv ⟨#[1]⟩=1 by decide,zf] at this;exact this
 have hN : ∀ w,Calls Tryz.prog 72 #[.string s] w fun e w'=>e = .returned (.string s)∧w=w':=fun w=>by
  have:=aQ s w (by omega);rw [h] at this;exact this
 have HN:=Lib.hid hN
 have HM:=Lib.hid hM
 obtain ⟨h1,h2⟩:=iD h0
 clear hN hM h h0
 go_enter Tryz.func71,Tryz.ntmps71
 go_wp2
 refine dI (fun W=>Gw W w.heap.size 0 n s ⟨#[1]⟩∧Below w.heap.size w W) ⟨⟨by simp [go_sem],by simp [go_sem],by simp [go_sem]⟩,(Below.refl _ _).alloc (Nat.le_refl _) _⟩ ?_
 rintro W ⟨⟨c0,c1,c2⟩,hb⟩
 have k0:=cell_regrown c0
 have k1:=cell_regrown c1
 have k2:=cell_regrown c2
 refine bK (by kernel_rfl) (by kernel_rfl) ?_
 repeat (first|go_big_quiet_skip|quiet_step (first|with_reducible exact Calls.gU (HM.out _)|with_reducible exact Calls.gU (HN.out _)))
 refine wpQuiet_nil ?_
 intro W1 hb1
 have hlt:=block_lt_of_cell c0
 have g0:=(hb1.cell hlt).trans c0
 have g1:=(hb1.cell (p:=⟨w.heap.size,0+1,none⟩) hlt).trans c1
 have g2:=(hb1.cell (p:=⟨w.heap.size,0+2,none⟩) hlt).trans c2
 go_wp2
 go_ret
 exact ⟨rfl,hb.trans (hb1.mono hb.size)⟩
theorem Gy (x:Nat):((bn x).toList == [1])=decide (x=1):=by
 by_cases h:x=1
 ·subst h;rw [zf,decide_eq_true rfl,ByteArray.toList_eq];rfl
 ·rw [decide_eq_false h];exact Gx (fun e=>h (Si (e.trans zf.symm)))
set_option maxRecDepth 100000 in
theorem aeC (n:Bool) (s d:ByteArray) (w:World) (hs:s.size≤1073741824) (hd:d.size≤1073741824) (h:bn (nv s)=s) (h0 : ¬ s.size=0) (hd1:bn (nv d)=d) (hd0 : ¬ d.size=0) (hd2:d≠⟨#[1]⟩) :
  Calls Tryz.prog 71 #[.agg #[.bool n,.string s,.string d]] w fun e w'=>e = .returned (.bool (decide (Nat.gcd (nv s) (nv d)=1)))∧Below w.heap.size w w':=by
 have hM : ∀ w,Calls Tryz.prog 72 #[.string d] w fun e w'=>e = .returned (.string d)∧w=w':=fun w=>by
  have:=aQ d w (by omega);rw [hd1] at this;exact this
 have hN : ∀ w,Calls Tryz.prog 72 #[.string s] w fun e w'=>e = .returned (.string s)∧w=w':=fun w=>by
  have:=aQ s w (by omega);rw [h] at this;exact this
 have HN:=Lib.hid hN
 have HM:=Lib.hid hM
 obtain ⟨h1,h2⟩:=iD h0
 obtain ⟨h3,h4⟩:=iD hd0
 have h5:=Gx hd2
 have HE:=Lib.hid (Gy (Nat.gcd (nv s) (nv d)))
 clear hN hM h h0 hd0 hd1 hd2
 go_enter Tryz.func71,Tryz.ntmps71
 go_wp2
 refine dI (fun W=>Gw W w.heap.size 0 n s d∧Below w.heap.size w W) ⟨⟨by simp [go_sem],by simp [go_sem],by simp [go_sem]⟩,(Below.refl _ _).alloc (Nat.le_refl _) _⟩ ?_
 rintro W ⟨⟨c0,c1,c2⟩,hb⟩
 have k0:=cell_regrown c0
 have k1:=cell_regrown c1
 have k2:=cell_regrown c2
 refine bK (by kernel_rfl) (by kernel_rfl) ?_
 repeat (first|go_big_quiet_skip|quiet_step (first|with_reducible exact Calls.gU (HM.out _)|with_reducible exact Calls.gU (HN.out _)))
 refine wpQuiet_nil ?_
 intro W1 hb1
 have hlt:=block_lt_of_cell c0
 have g0:=(hb1.cell hlt).trans c0
 have g1:=(hb1.cell (p:=⟨w.heap.size,0+1,none⟩) hlt).trans c1
 have g2:=(hb1.cell (p:=⟨w.heap.size,0+2,none⟩) hlt).trans c2
 go_wp2_with fail
 refine (ER s d _ hs hd).mono ?_;rintro e w3 ⟨rfl,hb3⟩
 go_wp2
 go_ret
 have hz:=hb.size
 have hz1:=hb1.size
 exact ⟨zU HE.out,hb.trans ((hb1.mono hz).trans (hb3.mono (by omega)))⟩
theorem Tq {s:ByteArray} (h:bn (nv s)=s) (h0 : ¬ s.size=0):nv s≠0:=by
 intro e
 rw [e] at h
 apply h0
 rw [← h];rfl
theorem Kq (n:Bool) (s d:ByteArray) (w:World) (hs:s.size≤1073741824) (hd:d.size≤1073741824) :
  Calls Tryz.prog 71 #[.agg #[.bool n,.string s,.string d]] w fun e w'=>e = .returned (.bool (aaI n s d))∧Below w.heap.size w w':=by
 by_cases h1:bn (nv s)=s
 ·by_cases h2:bn (nv d)=d
  ·by_cases h3:s.size=0
   ·obtain rfl:=fM h3
    have e:aaI n ⟨#[]⟩ d=(!n && decide (d.size=0)):=by
     by_cases h4:d.size=0
     ·obtain rfl:=fM h4
      cases n
      ·exact uq ⟨h1,h2,fun _=>⟨rfl,rfl⟩,.inl rfl⟩
      ·exact kX fun h=>by have:=(h.2.2.1 rfl).1;exact absurd this (by decide)
     ·rw [decide_eq_false h4,Bool.and_false]
      exact kX fun h=>Tq h2 h4 (h.2.2.1 rfl).2
    rw [e];exact aez n d w hd h2
   ·have n1:=Tq h1 h3
    by_cases h4:d.size=0
    ·obtain rfl:=fM h4
     rw [uq ⟨h1,h2,fun h=>absurd h n1,.inl rfl⟩]
     exact aeA n s w hs h1 h3
    ·have n2:=Tq h2 h4
     by_cases h5:d=⟨#[1]⟩
     ·subst h5
      rw [kX fun h=>by
       have e1:nv ⟨#[1]⟩=1:=rfl
       rcases h.2.2.2 with h6|⟨h6,_⟩
       ·rw [e1] at h6;exact absurd h6 (by decide)
       ·exact h6 e1]
      exact aeB n s w hs h1 h3
     ·have n3:nv d≠1:=fun e=>h5 (by rw [← h2,e,zf])
      have e:aaI n s d=decide (Nat.gcd (nv s) (nv d)=1):=by
       by_cases h6:Nat.gcd (nv s) (nv d)=1
       ·rw [decide_eq_true h6];exact uq ⟨h1,h2,fun h=>absurd h n1,.inr ⟨n3,h6⟩⟩
       ·rw [decide_eq_false h6];exact kX fun h=>by
         rcases h.2.2.2 with h7|⟨_,h7⟩
         ·exact n2 h7
         ·exact h6 h7
      rw [e];exact aeC n s d w hs hd h1 h3 h2 h4 h5
  ·rw [kX fun h=>h2 h.2.1];exact aey n s d w hs hd h1 h2
 ·rw [kX fun h=>h1 h.1];exact aex n s d w hs h1
def rv (q:Rat):Value:=.agg #[.bool (rn q),.string (rs q),.string (rd q)]
theorem aaJ {n:Bool} {s d:ByteArray} (h:RI n s d):rv (rq n s d) = .agg #[.bool n,.string s,.string d]:=by
 obtain ⟨e1,e2,e3⟩:=FV h
 unfold rv;rw [e1,e2,e3]
theorem aij {n:Bool} {s d:ByteArray} (h : ¬ RI n s d):rv (rq n s d) = .agg #[.bool false,.string ⟨#[]⟩,.string ⟨#[]⟩]:=by
 rw [aaq h];rfl
set_option maxRecDepth 100000 in
theorem clean_any (n:Bool) (s d:ByteArray) (w:World) (hs:s.size≤1073741824) (hd:d.size≤1073741824) :
  Calls Tryz.prog 34 #[.agg #[.bool n,.string s,.string d]] w fun e w'=>e = .returned (rv (rq n s d))∧Below w.heap.size w w':=by
 have hv:=fun w=>Kq n s d w hs hd
 by_cases h:RI n s d
 ·rw [aaJ h]
  rw [uq h] at hv
  have HV:=Lib.hid hv
  clear h hv
  go_enter Tryz.func34,Tryz.ntmps34
  go_wp2_with fail
  refine (HV.out _).mono ?_;rintro e w3 ⟨rfl,hb3⟩
  obtain ⟨H1,H2,HB⟩:=LM hb3
  obtain ⟨a0,a1,a2,-,-,-⟩:=H1.aY
  obtain ⟨b0,b1,b2,f0,f1,f2⟩:=H2.aY
  have HB:=Lib.hid HB
  have H2:=Lib.hid H2
  clear hb3 H1
  go_wp2
  refine aB (fun W=>bU W (w.heap.size+1) #[.bool n,.string s,.string d]∧Below w.heap.size w W) ⟨by exact bU.jf H2.out _ _ _,aJ HB.out (by omega) _ _ _⟩ ?_
  rintro WR ⟨iU,aZ⟩
  obtain ⟨y90,y91,jo,-,-,-⟩:=iU.aY
  exact bodyPost_ret (v:=.agg #[.bool n,.string s,.string d]) (by simp [results,Tryz.results34,go_sem,y90,y91,jo]) rfl ⟨rfl,aZ⟩
 ·rw [aij h]
  rw [kX h] at hv
  have HV:=Lib.hid hv
  clear h hv
  go_enter Tryz.func34,Tryz.ntmps34
  go_wp2_with fail
  refine (HV.out _).mono ?_;rintro e w3 ⟨rfl,hb3⟩
  obtain ⟨H1,H2,HB⟩:=LM hb3
  obtain ⟨a0,a1,a2,-,-,-⟩:=H1.aY
  obtain ⟨b0,b1,b2,f0,f1,f2⟩:=H2.aY
  have HB:=Lib.hid HB
  have H2:=Lib.hid H2
  clear hb3 H1
  go_wp2
  refine aB (fun W=>bU W (w.heap.size+1) #[.bool false,.string ⟨#[]⟩,.string ⟨#[]⟩]∧Below w.heap.size w W) ⟨by exact bU.jf H2.out _ _ _,aJ HB.out (by omega) _ _ _⟩ ?_
  rintro WR ⟨iU,aZ⟩
  obtain ⟨y90,y91,jo,-,-,-⟩:=iU.aY
  exact bodyPost_ret (v:=.agg #[.bool false,.string ⟨#[]⟩,.string ⟨#[]⟩]) (by simp [results,Tryz.results34,go_sem,y90,y91,jo]) rfl ⟨rfl,aZ⟩
theorem Kr {x:Nat} (h:0<x):(bn x).toList.isEmpty=false∧¬ (bn x).toList=[]:=by
 apply iD
 intro e
 have:=fM e
 rw [DR] at this
 omega
theorem yw {x:Nat} (h:x≠1):((bn x).toList == [1])=false:=by rw [Gy,decide_eq_false h]
set_option maxRecDepth 100000 in
theorem MN (neg:Bool) (a b:ByteArray) (w:World) (ha:a.size≤1073741824) (hb:b.size≤1073741824) (hx:nv a=0) :
  Calls Tryz.prog 47 #[.bool neg,.string a,.string b] w fun e w'=>e = .returned (rv 0)∧Below w.heap.size w w':=by
 have hN : ∀ w,Calls Tryz.prog 72 #[.string a] w fun e w'=>e = .returned (.string ⟨#[]⟩)∧w=w':=fun w=>by
  have:=aQ a w (by omega);rw [hx] at this;exact this
 have HN:=Lib.hid hN
 clear hN hx
 go_enter Tryz.func47,Tryz.ntmps47
 go_wp2_with fail
 refine (HN.out _).mono ?_;rintro e w3 ⟨rfl,rfl⟩
 go_wp2_with fail
 refine (aQ b _ (by omega)).mono ?_;rintro e w3 ⟨rfl,rfl⟩
 go_wp2
 exact bodyPost_ret (v:=rv 0) (by simp [results,Tryz.results47,go_sem,rv,zZ,Aa,Ac]) rfl ⟨rfl,(Below.refl _ _).alloc (Nat.le_refl _) _⟩
theorem O7 {n:Bool} {x y:Nat} (hx:0<x) (hy:0<y):rv (fr n x y) = .agg #[.bool n,.string (bn (x/Nat.gcd x y)),.string (if y/Nat.gcd x y=1 then ⟨#[]⟩ else bn (y/Nat.gcd x y))]:=by
 obtain ⟨e1,e2,e3⟩:=XU (n:=n) hx hy
 unfold rv;rw [e1,e2,e3]
set_option maxRecDepth 100000 in
theorem O8 (neg:Bool) (a b:ByteArray) (w:World) (ha:a.size≤1073741824) (hb:b.size≤1073741824) (hx:0<nv a) (hy:nv b=1) :
  Calls Tryz.prog 47 #[.bool neg,.string a,.string b] w fun e w'=>e = .returned (rv (fr neg (nv a) 1))∧Below w.heap.size w w':=by
 have hN : ∀ w,Calls Tryz.prog 72 #[.string a] w fun e w'=>e = .returned (.string (bn (nv a)))∧w=w':=fun w=>aQ a w (by omega)
 have hM : ∀ w,Calls Tryz.prog 72 #[.string b] w fun e w'=>e = .returned (.string ⟨#[1]⟩)∧w=w':=fun w=>by
  have:=aQ b w (by omega);rw [hy,zf] at this;exact this
 obtain ⟨h1,h2⟩:=Kr hx
 have e:rv (fr neg (nv a) 1) = .agg #[.bool neg,.string (bn (nv a)),.string ⟨#[]⟩]:=by
  rw [O7 hx (by omega),Nat.gcd_one_right,Nat.div_one,if_pos rfl]
 rw [e]
 generalize bn (nv a)=t at *
 have HN:=Lib.hid hN
 have HM:=Lib.hid hM
 clear hN hM hx hy e
 go_enter Tryz.func47,Tryz.ntmps47
 go_wp2_with fail
 refine (HN.out _).mono ?_;rintro e w3 ⟨rfl,rfl⟩
 go_wp2_with fail
 refine (HM.out _).mono ?_;rintro e w3 ⟨rfl,rfl⟩
 go_wp2
 exact bodyPost_ret (v:=.agg #[.bool neg,.string t,.string ⟨#[]⟩]) (by simp [results,Tryz.results47,go_sem]) rfl ⟨rfl,(Below.refl _ _).alloc (Nat.le_refl _) _⟩
theorem O9 (x g:Nat) (w:World) (hx:(bn x).size≤1073741824) (hg:(bn g).size≤1073741824) (h0:0<g) :
  Calls Tryz.prog 87 #[.string (bn x),.string (bn g)] w fun e w'=>e = .returned (.tuple #[.string (bn (x/g)),.string (bn (x%g)),.bool true])∧Below w.heap.size w w':=by
 have:=DX (bn x) (bn g) w hx hg (by rw [bJ];exact h0)
 rw [bJ,bJ] at this
 exact this
set_option maxRecDepth 100000 in
theorem Tv (neg:Bool) (a b:ByteArray) (w:World) (ha:a.size≤1073741824) (hb:b.size≤1073741824) (hx:0<nv a) (hy:1<nv b) (hg:Nat.gcd (nv a) (nv b)=1) :
  Calls Tryz.prog 47 #[.bool neg,.string a,.string b] w fun e w'=>e = .returned (rv (fr neg (nv a) (nv b)))∧Below w.heap.size w w':=by
 have hN : ∀ w,Calls Tryz.prog 72 #[.string a] w fun e w'=>e = .returned (.string (bn (nv a)))∧w=w':=fun w=>aQ a w (by omega)
 have hM : ∀ w,Calls Tryz.prog 72 #[.string b] w fun e w'=>e = .returned (.string (bn (nv b)))∧w=w':=fun w=>aQ b w (by omega)
 have sa:=kW a
 have sb:=kW b
 obtain ⟨h1,h2⟩:=Kr hx
 have h3:=yw (x:=nv b) (by omega)
 have hG : ∀ w,Calls Tryz.prog 86 #[.string (bn (nv a)),.string (bn (nv b))] w fun e w'=>e = .returned (.string ⟨#[1]⟩)∧Below w.heap.size w w':=fun w=>by
  have:=ER (bn (nv a)) (bn (nv b)) w (by omega) (by omega)
  rw [bJ,bJ,hg,zf] at this;exact this
 have e:rv (fr neg (nv a) (nv b)) = .agg #[.bool neg,.string (bn (nv a)),.string (bn (nv b))]:=by
  rw [O7 hx (by omega),hg,Nat.div_one,Nat.div_one,if_neg (by omega)]
 rw [e]
 generalize bn (nv a)=t at *
 generalize bn (nv b)=u at *
 have HN:=Lib.hid hN
 have HM:=Lib.hid hM
 have HG:=Lib.hid hG
 clear hN hM hx hy e hG hg
 go_enter Tryz.func47,Tryz.ntmps47
 go_wp2_with fail
 refine (HN.out _).mono ?_;rintro e w3 ⟨rfl,rfl⟩
 go_wp2_with fail
 refine (HM.out _).mono ?_;rintro e w3 ⟨rfl,rfl⟩
 go_wp2_with fail
 refine (HG.out _).mono ?_;rintro e w3 ⟨rfl,hb3⟩
 obtain ⟨H2,HB⟩:=fD hb3
 obtain ⟨b0,b1,b2,f0,f1,f2⟩:=H2.aY
 have HB:=Lib.hid HB
 have H2:=Lib.hid H2
 clear hb3
 go_wp2
 refine aB (fun W=>bU W (w.heap.size) #[.bool neg,.string t,.string u]∧Below w.heap.size w W) ⟨by exact bU.jf H2.out _ _ _,aJ HB.out (by omega) _ _ _⟩ ?_
 rintro WR ⟨iU,aZ⟩
 obtain ⟨y90,y91,jo,-,-,-⟩:=iU.aY
 exact bodyPost_ret (v:=.agg #[.bool neg,.string t,.string u]) (by simp [results,Tryz.results47,go_sem,y90,y91,jo]) rfl ⟨rfl,aZ⟩
set_option maxRecDepth 100000 in
theorem Pg (neg:Bool) (a b:ByteArray) (w:World) (ha:a.size≤1073741824) (hb:b.size≤1073741824) (hx:0<nv a) (hy:1<nv b) (hg:Nat.gcd (nv a) (nv b)≠1) :
  Calls Tryz.prog 47 #[.bool neg,.string a,.string b] w fun e w'=>e = .returned (rv (fr neg (nv a) (nv b)))∧Below w.heap.size w w':=by
 have hN : ∀ w,Calls Tryz.prog 72 #[.string a] w fun e w'=>e = .returned (.string (bn (nv a)))∧w=w':=fun w=>aQ a w (by omega)
 have hM : ∀ w,Calls Tryz.prog 72 #[.string b] w fun e w'=>e = .returned (.string (bn (nv b)))∧w=w':=fun w=>aQ b w (by omega)
 have sa:=kW a
 have sb:=kW b
 obtain ⟨h1,h2⟩:=Kr hx
 have h3:=yw (x:=nv b) (by omega)
 have g0:0<Nat.gcd (nv a) (nv b):=Nat.gcd_pos_of_pos_left _ hx
 have h4:=yw hg
 have sg:(bn (Nat.gcd (nv a) (nv b))).size≤a.size:=jv (Nat.lt_of_le_of_lt (Nat.gcd_le_left _ hx) (DN a))
 have hG : ∀ w,Calls Tryz.prog 86 #[.string (bn (nv a)),.string (bn (nv b))] w fun e w'=>e = .returned (.string (bn (Nat.gcd (nv a) (nv b))))∧Below w.heap.size w w':=fun w=>by
  have:=ER (bn (nv a)) (bn (nv b)) w (by omega) (by omega)
  rw [bJ,bJ] at this;exact this
 have hD1:=fun w=>O9 (nv a) (Nat.gcd (nv a) (nv b)) w (by omega) (by omega) g0
 have hD2:=fun w=>O9 (nv b) (Nat.gcd (nv a) (nv b)) w (by omega) (by omega) g0
 have e:=O7 (n:=neg) hx (show 0<nv b by omega)
 rw [e]
 have hq:(nv b/Nat.gcd (nv a) (nv b)=1∧bn (nv b/Nat.gcd (nv a) (nv b))=⟨#[1]⟩)∨(¬ nv b/Nat.gcd (nv a) (nv b)=1∧((bn (nv b/Nat.gcd (nv a) (nv b))).toList == [1])=false):=by
  by_cases h:nv b/Nat.gcd (nv a) (nv b)=1
  ·exact .inl ⟨h,by rw [h,zf]⟩
  ·exact .inr ⟨h,yw h⟩
 generalize bn (nv a%Nat.gcd (nv a) (nv b))=v1 at *
 generalize bn (nv b%Nat.gcd (nv a) (nv b))=v2 at *
 generalize bn (nv a/Nat.gcd (nv a) (nv b))=q1 at *
 generalize bn (nv b/Nat.gcd (nv a) (nv b))=q2 at *
 generalize nv b/Nat.gcd (nv a) (nv b)=z at *
 generalize bn (Nat.gcd (nv a) (nv b))=g at *
 generalize bn (nv a)=t at *
 generalize bn (nv b)=u at *
 have HN:=Lib.hid hN
 have HM:=Lib.hid hM
 have HG:=Lib.hid hG
 have HD1:=Lib.hid hD1
 have HD2:=Lib.hid hD2
 clear hN hM hx hy e hG hg hD1 hD2 g0
 rcases hq with ⟨hz,rfl⟩|⟨hz,h5⟩
 ·rw [if_pos hz]
  clear hz
  as_aux_lemma =>
  go_enter Tryz.func47,Tryz.ntmps47
  go_wp2_with fail
  refine (HN.out _).mono ?_;rintro e w3 ⟨rfl,rfl⟩
  go_wp2_with fail
  refine (HM.out _).mono ?_;rintro e w3 ⟨rfl,rfl⟩
  go_wp2_with fail
  refine (HG.out _).mono ?_;rintro e w3 ⟨rfl,hb3⟩
  go_wp2_with fail
  refine (HD1.out _).mono ?_;rintro e w4 ⟨rfl,hb4⟩
  go_wp2_with fail
  refine (HD2.out _).mono ?_;rintro e w5 ⟨rfl,hb5⟩
  obtain ⟨H2,HB⟩:=fD (chain (chain hb3 hb4 (Nat.le_refl _)) hb5 (Nat.le_refl _))
  obtain ⟨b0,b1,b2,f0,f1,f2⟩:=H2.aY
  have HB:=Lib.hid HB
  have H2:=Lib.hid H2
  clear hb3 hb4 hb5
  go_wp2
  refine aB (fun W=>bU W (w.heap.size) #[.bool neg,.string q1,.string ⟨#[]⟩]∧Below w.heap.size w W) ⟨by exact bU.jf H2.out _ _ _,aJ HB.out (by omega) _ _ _⟩ ?_
  rintro WR ⟨iU,aZ⟩
  obtain ⟨y90,y91,jo,-,-,-⟩:=iU.aY
  exact bodyPost_ret (v:=.agg #[.bool neg,.string q1,.string ⟨#[]⟩]) (by simp [results,Tryz.results47,go_sem,y90,y91,jo]) rfl ⟨rfl,aZ⟩
 ·rw [if_neg hz]
  clear hz
  as_aux_lemma =>
  go_enter Tryz.func47,Tryz.ntmps47
  go_wp2_with fail
  refine (HN.out _).mono ?_;rintro e w3 ⟨rfl,rfl⟩
  go_wp2_with fail
  refine (HM.out _).mono ?_;rintro e w3 ⟨rfl,rfl⟩
  go_wp2_with fail
  refine (HG.out _).mono ?_;rintro e w3 ⟨rfl,hb3⟩
  go_wp2_with fail
  refine (HD1.out _).mono ?_;rintro e w4 ⟨rfl,hb4⟩
  go_wp2_with fail
  refine (HD2.out _).mono ?_;rintro e w5 ⟨rfl,hb5⟩
  obtain ⟨H2,HB⟩:=fD (chain (chain hb3 hb4 (Nat.le_refl _)) hb5 (Nat.le_refl _))
  obtain ⟨b0,b1,b2,f0,f1,f2⟩:=H2.aY
  have HB:=Lib.hid HB
  have H2:=Lib.hid H2
  clear hb3 hb4 hb5
  go_wp2
  refine aB (fun W=>bU W (w.heap.size) #[.bool neg,.string q1,.string q2]∧Below w.heap.size w W) ⟨by exact bU.jf H2.out _ _ _,aJ HB.out (by omega) _ _ _⟩ ?_
  rintro WR ⟨iU,aZ⟩
  obtain ⟨y90,y91,jo,-,-,-⟩:=iU.aY
  exact bodyPost_ret (v:=.agg #[.bool neg,.string q1,.string q2]) (by simp [results,Tryz.results47,go_sem,y90,y91,jo]) rfl ⟨rfl,aZ⟩
theorem Pj (neg:Bool) (a b:ByteArray) (w:World) (ha:a.size≤1073741824) (hb:b.size≤1073741824) (hy:0<nv b) :
  Calls Tryz.prog 47 #[.bool neg,.string a,.string b] w fun e w'=>e = .returned (rv (fr neg (nv a) (nv b)))∧Below w.heap.size w w':=by
 rcases Nat.eq_zero_or_pos (nv a) with h|h
 ·rw [h,LU];exact MN neg a b w ha hb h
 ·rcases Nat.lt_or_ge 1 (nv b) with h1|h1
  ·by_cases h2:Nat.gcd (nv a) (nv b)=1
   ·exact Tv neg a b w ha hb h h1 h2
   ·exact Pg neg a b w ha hb h h1 h2
  ·have e:nv b=1:=by omega
   rw [e];exact O8 neg a b w ha hb h e
theorem fU (n:Bool) (s d:ByteArray) (w:World) (hs:s.size≤1073741824) (hd:d.size≤1073741824) :
  Calls Tryz.prog 34 #[.agg #[.bool n,.string s,.string d]] w fun e w'=>e = .returned (.agg #[.bool (rn (rq n s d)),.string (rs (rq n s d)),.string (rd (rq n s d))])∧Below w.heap.size w w':=clean_any n s d w hs hd
theorem wQ (neg:Bool) (a b:ByteArray) (w:World) (ha:a.size≤1073741824) (hb:b.size≤1073741824) (hy:0<nv b) :
  Calls Tryz.prog 47 #[.bool neg,.string a,.string b] w fun e w'=>e = .returned (.agg #[.bool (rn (fr neg (nv a) (nv b))),.string (rs (fr neg (nv a) (nv b))),.string (rd (fr neg (nv a) (nv b)))])∧Below w.heap.size w w':=Pj neg a b w ha hb hy
theorem sU (n:Bool) (s d:ByteArray):Sm (s.size+d.size+1) (rq n s d):=alu (by omega) (by omega) (by omega)
def OC (q:Rat) (b:Bool):Value:=.tuple #[.agg #[.bool (rn q),.string (rs q),.string (rd q)],.bool b]
set_option maxRecDepth 100000 in
theorem VW (neg:Bool) (a b:ByteArray) (w:World) (hb:b.size≤1073741824) (hy:nv b=0) :
  Calls Tryz.prog 141 #[.bool neg,.string a,.string b] w fun e w'=>e = .returned (OC 0 false)∧Below w.heap.size w w':=by
 have hN : ∀ w,Calls Tryz.prog 72 #[.string b] w fun e w'=>e = .returned (.string ⟨#[]⟩)∧w=w':=fun w=>by
  have:=aQ b w (by omega);rw [hy] at this;exact this
 have HN:=Lib.hid hN
 clear hN hy
 go_enter Tryz.func141,Tryz.ntmps141
 go_wp2_with fail
 refine (HN.out _).mono ?_;rintro e w3 ⟨rfl,rfl⟩
 go_wp2
 exact bodyPost_ret (v:=OC 0 false) (by simp [results,Tryz.results141,go_sem,OC,zZ,Aa,Ac]) rfl ⟨rfl,(Below.refl _ _).alloc (Nat.le_refl _) _⟩
set_option maxRecDepth 100000 in
theorem Pm (neg:Bool) (a b:ByteArray) (w:World) (ha:a.size≤1073741824) (hb:b.size≤1073741824) (hy:0<nv b) :
  Calls Tryz.prog 141 #[.bool neg,.string a,.string b] w fun e w'=>e = .returned (OC (fr neg (nv a) (nv b)) true)∧Below w.heap.size w w':=by
 obtain ⟨h1,h2⟩:=Kr hy
 have HR:=Lib.hid (fun w=>wQ neg a b w ha hb hy)
 have HN:=Lib.hid (fun w=>aQ b w (show b.size≤9223372036854775807 by omega))
 generalize bn (nv b)=t at *
 generalize fr neg (nv a) (nv b)=q at *
 clear hy
 go_enter Tryz.func141,Tryz.ntmps141
 go_wp2_with fail
 refine (HN.out _).mono ?_;rintro e w3 ⟨rfl,rfl⟩
 go_wp2_with fail
 refine (HR.out _).mono ?_;rintro e w3 ⟨rfl,hb3⟩
 obtain ⟨H2,HB⟩:=fD hb3
 obtain ⟨b0,b1,b2,f0,f1,f2⟩:=H2.aY
 have HB:=Lib.hid HB
 have H2:=Lib.hid H2
 clear hb3
 go_wp2
 refine aB (fun W=>bU W w.heap.size #[.bool (rn q),.string (rs q),.string (rd q)]∧Below w.heap.size w W) ⟨by exact bU.jf H2.out _ _ _,aJ HB.out (by omega) _ _ _⟩ ?_
 rintro WR ⟨iU,aZ⟩
 obtain ⟨r0,r1,r2,-,-,-⟩:=iU.aY
 exact bodyPost_ret (v:=OC q true) (by simp [results,Tryz.results141,go_sem,r0,r1,r2,OC]) rfl ⟨rfl,aZ⟩
set_option maxRecDepth 100000 in
theorem Jr (i:Int) (w:World) (h1 : -9223372036854775808≤i) (h2:i≤9223372036854775807) :
  Calls Tryz.prog 48 #[.int .i64 i] w fun e w'=>e = .returned (.string (bn i.natAbs))∧Below w.heap.size w w':=by
 by_cases h:i<0
 ·have e1:IntKind.u64.wrap (-IntKind.u64.wrap i)=((i.natAbs:Nat):Int):=by
   simp only [IntKind.wrap,IntKind.bits,IntKind.signed];simp;omega
  have HF:=Lib.hid (fun w=>vw i.natAbs w (by omega))
  go_enter Tryz.func48,Tryz.ntmps48
  go_wp2_with fail
  refine (HF.out _).mono ?_;rintro e w3 ⟨rfl,hb3⟩
  go_wp2
  go_ret
  exact ⟨rfl,hb3⟩
 ·have e1:IntKind.u64.wrap i=((i.natAbs:Nat):Int):=by
   simp only [IntKind.wrap,IntKind.bits,IntKind.signed];simp;omega
  have HF:=Lib.hid (fun w=>vw i.natAbs w (by omega))
  go_enter Tryz.func48,Tryz.ntmps48
  go_wp2_with fail
  refine (HF.out _).mono ?_;rintro e w3 ⟨rfl,hb3⟩
  go_wp2
  go_ret
  exact ⟨rfl,hb3⟩
theorem aaK (i:Int):fr (decide (i<0)) i.natAbs 1=(i:Rat):=by
 unfold fr;rw [zX]
 exact (Rat.mkRat_self (i:Rat))
set_option maxRecDepth 100000 in
theorem VX (i:Int) (w:World) (h1 : -9223372036854775808≤i) (h2:i≤9223372036854775807) :
  Calls Tryz.prog 23 #[.int .i64 i] w fun e w'=>e = .returned (.agg #[.bool (rn (i:Rat)),.string (rs (i:Rat)),.string (rd (i:Rat))])∧Below w.heap.size w w':=by
 have hsz:(bn i.natAbs).size≤8:=jv (by omega)
 have hR : ∀ w,Calls Tryz.prog 47 #[.bool (decide (i<0)),.string (bn i.natAbs),.string ⟨#[1]⟩] w fun e w'=>e = .returned (.agg #[.bool (rn (i:Rat)),.string (rs (i:Rat)),.string (rd (i:Rat))])∧Below w.heap.size w w':=fun w=>by
  have:=wQ (decide (i<0)) (bn i.natAbs) ⟨#[1]⟩ w (by omega) (by decide) (by decide)
  rw [bJ,show nv ⟨#[1]⟩=1 by decide,aaK] at this
  exact this
 have HF:=Lib.hid (fun w=>Jr i w h1 h2)
 generalize bn i.natAbs=t at *
 generalize (i:Rat)=q at *
 have HR:=Lib.hid hR
 clear hR
 go_enter Tryz.func23,Tryz.ntmps23
 go_wp2_with fail
 refine (HF.out _).mono ?_;rintro e w3 ⟨rfl,hb3⟩
 go_wp2_with fail
 refine (HR.out _).mono ?_;rintro e w4 ⟨rfl,hb4⟩
 obtain ⟨H2,HB⟩:=fD (chain hb3 hb4 (Nat.le_refl _))
 obtain ⟨b0,b1,b2,f0,f1,f2⟩:=H2.aY
 have HB:=Lib.hid HB
 have H2:=Lib.hid H2
 clear hb3 hb4
 go_wp2
 refine aB (fun W=>bU W (w.heap.size) #[.bool (rn q),.string (rs q),.string (rd q)]∧Below w.heap.size w W) ⟨by exact bU.jf H2.out _ _ _,aJ HB.out (by omega) _ _ _⟩ ?_
 rintro WR ⟨iU,aZ⟩
 obtain ⟨y90,y91,jo,-,-,-⟩:=iU.aY
 exact bodyPost_ret (v:=.agg #[.bool (rn q),.string (rs q),.string (rd q)]) (by simp [results,Tryz.results23,go_sem,y90,y91,jo]) rfl ⟨rfl,aZ⟩
set_option maxRecDepth 100000 in
theorem zl (q:Rat) (w:World) :
  Calls Tryz.prog 35 #[.agg #[.bool (rn q),.string (rs q),.string (rd q)]] w fun e w'=>e = .returned (.int .i64 (sg q))∧Below w.heap.size w w':=by
 by_cases h:nm q=0
 ·have e:=lT.mp h
  subst e
  rw [VD h,zZ,Aa,Ac]
  clear h
  go_enter Tryz.func35,Tryz.ntmps35
  go_wp2
  go_ret
  exact ⟨rfl,(Below.refl _ _).alloc (Nat.le_refl _) _⟩
 ·obtain ⟨h1,h2⟩:=Kr (x:=nm q) (by omega)
  have e:rs q=bn (nm q):=rfl
  rw [e]
  generalize bn (nm q)=t at *
  cases hn:rn q
  ·rw [aat hn h]
   clear h hn e
   go_enter Tryz.func35,Tryz.ntmps35
   go_wp2
   go_ret
   exact ⟨rfl,(Below.refl _ _).alloc (Nat.le_refl _) _⟩
  ·rw [aas hn]
   clear h hn e
   go_enter Tryz.func35,Tryz.ntmps35
   go_wp2
   go_ret
   exact ⟨rfl,(Below.refl _ _).alloc (Nat.le_refl _) _⟩
set_option maxRecDepth 100000 in
theorem Gz (n:Bool) (s d:ByteArray) (w:World) (hs:s.size≤268435456) (hd:d.size≤268435456) :
  Calls Tryz.prog 12 #[.agg #[.bool n,.string s,.string d]] w fun e w'=>e = .returned (.int .i64 (sg (rq n s d)))∧Below w.heap.size w w':=by
 have HC:=Lib.hid (fun w=>fU n s d w (by omega) (by omega))
 generalize rq n s d=q at *
 have HS:=Lib.hid (fun w=>zl q w)
 generalize sg q=i at *
 go_enter Tryz.func12,Tryz.ntmps12
 go_wp2_with fail
 refine (HC.out _).mono ?_;rintro e w3 ⟨rfl,hb3⟩
 go_wp2_with fail
 refine (HS.out _).mono ?_;rintro e w4 ⟨rfl,hb4⟩
 obtain ⟨H2,HB⟩:=fD (chain hb3 hb4 (Nat.le_refl _))
 have HB:=Lib.hid HB
 clear hb3 hb4
 go_wp2
 go_ret
 exact ⟨rfl,HB.out⟩
theorem mY (w:World) (vs us:Array Value) (T U:TypeId):bU ((w.alloc (.cells vs T)).alloc (.cells us U)) w.heap.size vs∧bU ((w.alloc (.cells vs T)).alloc (.cells us U)) (w.heap.size+1) us∧Below w.heap.size w ((w.alloc (.cells vs T)).alloc (.cells us U)) :=
 LM (Below.refl _ _)
theorem nV (w:World) (vs us ts:Array Value) (T U V:TypeId):bU (((w.alloc (.cells vs T)).alloc (.cells us U)).alloc (.cells ts V)) w.heap.size vs∧bU (((w.alloc (.cells vs T)).alloc (.cells us U)).alloc (.cells ts V)) (w.heap.size+1) us∧bU (((w.alloc (.cells vs T)).alloc (.cells us U)).alloc (.cells ts V)) (w.heap.size+1+1) ts∧Below w.heap.size w (((w.alloc (.cells vs T)).alloc (.cells us U)).alloc (.cells ts V)) :=
 FQ (Below.refl _ _)
theorem zn {w W:World} {b1 b2:Nat} {v1 v2 v3 u1 u2 u3:Value} (x1 x2 x3 y1 y2 y3:Value) (h1:bU W b1 #[v1,v2,v3]) (h2:bU W b2 #[u1,u2,u3]) (hb:Below w.heap.size w W) (hn:b1≠b2) (l1:w.heap.size≤b1) (l2:w.heap.size≤b2) :
  bU ((((((W.setCell ⟨b1,0,none⟩ x1).setCell ⟨b1,1,none⟩ x2).setCell ⟨b1,2,none⟩ x3).setCell ⟨b2,0,none⟩ y1).setCell ⟨b2,1,none⟩ y2).setCell ⟨b2,2,none⟩ y3) b1 #[x1,x2,x3] ∧
  bU ((((((W.setCell ⟨b1,0,none⟩ x1).setCell ⟨b1,1,none⟩ x2).setCell ⟨b1,2,none⟩ x3).setCell ⟨b2,0,none⟩ y1).setCell ⟨b2,1,none⟩ y2).setCell ⟨b2,2,none⟩ y3) b2 #[y1,y2,y3] ∧
  Below w.heap.size w ((((((W.setCell ⟨b1,0,none⟩ x1).setCell ⟨b1,1,none⟩ x2).setCell ⟨b1,2,none⟩ x3).setCell ⟨b2,0,none⟩ y1).setCell ⟨b2,1,none⟩ y2).setCell ⟨b2,2,none⟩ y3) :=
 ⟨(h1.jf _ _ _).ql hn _ _ _,(h2.ql hn.symm _ _ _).jf _ _ _,aJ (aJ hb l1 _ _ _) l2 _ _ _⟩
theorem rP (q:Rat) (w:World):Calls Tryz.prog 38 #[.agg #[.bool (rn q),.string (rs q),.string (rd q)]] w fun e w'=>e = .returned (.string (bn q.den))∧Below w.heap.size w w':=by
 have:=aew (rn q) (rs q) (rd q) w
 rw [aii] at this;exact this
theorem jS {x k:Nat} (h:x<256 ^ k) (hk:k≤1073741824):(bn x).size≤1073741824:=Nat.le_trans (jv h) hk
theorem lV (x y k l:Nat) (w:World) (hx:x<256 ^ k) (hy:y<256 ^ l) (hk:k≤1073741824) (hl:l≤1073741824) :
  Calls Tryz.prog 37 #[.string (bn x),.string (bn y)] w fun e w'=>e = .returned (.string (bn (x*y)))∧Below w.heap.size w w':=by
 have:=Aj (bn x) (bn y) w (jS hx hk) (jS hy hl)
 rw [bJ,bJ] at this;exact this
structure an4 (p1:Bool) (p2 p3:ByteArray) (q1:Bool) (q2 q3:ByteArray) (P1 P2 X Y:ByteArray) (c σ τ:Int):Prop where
 dp : ∀ w,Calls Tryz.prog 38 #[.agg #[.bool p1,.string p2,.string p3]] w fun e w'=>e = .returned (.string P1)∧Below w.heap.size w w'
 dq : ∀ w,Calls Tryz.prog 38 #[.agg #[.bool q1,.string q2,.string q3]] w fun e w'=>e = .returned (.string P2)∧Below w.heap.size w w'
 mx : ∀ w,Calls Tryz.prog 37 #[.string p2,.string P2] w fun e w'=>e = .returned (.string X)∧Below w.heap.size w w'
 my : ∀ w,Calls Tryz.prog 37 #[.string q2,.string P1] w fun e w'=>e = .returned (.string Y)∧Below w.heap.size w w'
 cm : ∀ w,Calls Tryz.prog 36 #[.string X,.string Y] w fun e w'=>e = .returned (.int .i64 c)∧Below w.heap.size w w'
 sp : ∀ w,Calls Tryz.prog 35 #[.agg #[.bool p1,.string p2,.string p3]] w fun e w'=>e = .returned (.int .i64 σ)∧Below w.heap.size w w'
 sq : ∀ w,Calls Tryz.prog 35 #[.agg #[.bool q1,.string q2,.string q3]] w fun e w'=>e = .returned (.int .i64 τ)∧Below w.heap.size w w'
theorem aeD (p q:Rat) (k l:Nat) (hp:Sm k p) (hq:Sm l q) (hkl:k+l≤1073741824) :
  an4 (rn p) (rs p) (rd p) (rn q) (rs q) (rd q) (bn p.den) (bn q.den) (bn (nm p*q.den)) (bn (nm q*p.den)) (jK (nm p*q.den) (nm q*p.den)) (sg p) (sg q):=by
 have h1:=iI hp.1 hq.2
 have h2:=iI hq.1 hp.2
 refine ⟨fun w=>rP p w,fun w=>rP q w,fun w=>lV _ _ k l w hp.1 hq.2 (by omega) (by omega),fun w=>lV _ _ l k w hq.1 hp.2 (by omega) (by omega),fun w=>?_,fun w=>zl p w,fun w=>zl q w⟩
 have:=L6 (bn (nm p*q.den)) (bn (nm q*p.den)) w (jS h1 hkl) (jS h2 (by omega))
 rw [bJ,bJ] at this
 exact this.mono fun e w' ⟨he,hw⟩=>⟨he,by subst hw;exact Below.refl _ _⟩
set_option maxRecDepth 100000 in
theorem rQ (n1:Bool) (s1 d1:ByteArray) (n2:Bool) (s2 d2:ByteArray) (w:World) (h1:s1.size+d1.size≤268435456) (h2:s2.size+d2.size≤268435456) :
  Calls Tryz.prog 11 #[.agg #[.bool n1,.string s1,.string d1],.agg #[.bool n2,.string s2,.string d2]] w fun e w'=>e = .returned (.int .i64 (ku (rq n1 s1 d1) (rq n2 s2 d2)))∧Below w.heap.size w w':=by
 have Pn:=Lib.hid (fun w=>fU n1 s1 d1 w (by omega) (by omega))
 have HC2:=Lib.hid (fun w=>fU n2 s2 d2 w (by omega) (by omega))
 have CS:=aeD _ _ _ _ (sU n1 s1 d1) (sU n2 s2 d2) (by omega)
 generalize rq n1 s1 d1=p at *
 generalize rq n2 s2 d2=q at *
 have f1:sg p<sg q→ku p q = -1:=SL
 have f2:sg q<sg p→ku p q=1:=SQ
 have f3:sg p=sg q→ku p q=if rn p=true then -(jK (nm p*q.den) (nm q*p.den)) else jK (nm p*q.den) (nm q*p.den):=XV
 have f4 : -1≤jK (nm p*q.den) (nm q*p.den)∧jK (nm p*q.den) (nm q*p.den)≤1:=by unfold jK;split;omega;split <;> omega
 generalize bn (nm p*q.den)=X at *
 generalize bn (nm q*p.den)=Y at *
 generalize bn p.den=P1 at *
 generalize bn q.den=P2 at *
 generalize jK (nm p*q.den) (nm q*p.den)=c at *
 generalize ku p q=R at *
 generalize sg p=σ at *
 generalize sg q=τ at *
 generalize rn p=p1 at *
 generalize rs p=p2 at *
 generalize rd p=p3 at *
 generalize rn q=q1 at *
 generalize rs q=q2 at *
 generalize rd q=q3 at *
 have F:=Lib.hid (And.intro f1 (And.intro f2 f3))
 have HD:=Lib.hid CS
 clear f1 f2 f3 CS
 go_enter Tryz.func11,Tryz.ntmps11
 go_wp2
 refine dI (fun W=>bU W w.heap.size #[.bool n1,.string s1,.string d1]∧bU W (w.heap.size+1) #[.bool n2,.string s2,.string d2]∧Below w.heap.size w W) (mY w _ _ _ _) ?_
 rintro W ⟨H1,H2,HB⟩
 obtain ⟨k0,k1,k2⟩:=H1.fO
 obtain ⟨k3,k4,k5⟩:=H2.fO
 refine fV 4 (by kernel_rfl) (by kernel_rfl) ?_
 simp only [List.take_succ_cons,List.take_zero,List.drop_succ_cons,List.drop_zero]
 repeat (first|go_big_quiet_skip|quiet_step (first|with_reducible exact Calls.later (Pn.out _)|with_reducible exact Calls.later (HC2.out _)))
 clear k0 k1 k2 k3 k4 k5
 refine wpQuiet_nil ?_
 intro W1 hb1
 have J1:=Lib.hid (H1.on hb1)
 have J2:=Lib.hid (H2.on hb1)
 have GB:=Lib.hid (chain HB hb1 (Nat.le_refl _))
 clear H1 H2 HB hb1
 obtain ⟨a0,a1,a2,a3,a4,a5⟩:=J1.out.aY
 obtain ⟨b0,b1,b2,b3,b4,b5⟩:=J2.out.aY
 go_wp2
 clear a0 a1 a2 a3 a4 a5 b0 b1 b2 b3 b4 b5
 refine dI (fun W=>bU W w.heap.size #[.bool p1,.string p2,.string p3]∧bU W (w.heap.size+1) #[.bool q1,.string q2,.string q3]∧Below w.heap.size w W) (zn _ _ _ _ _ _ J1.out J2.out GB.out (by omega) (Nat.le_refl _) (by omega)) ?_
 clear J1 J2 GB
 rintro W3 ⟨H1,H2,HB⟩
 obtain ⟨k0,k1,k2⟩:=H1.fO
 obtain ⟨k3,k4,k5⟩:=H2.fO
 refine bK (by kernel_rfl) (by kernel_rfl) ?_
 repeat (first|go_big_quiet_skip|quiet_step (first|with_reducible exact Calls.later (HD.out.sp _)|with_reducible exact Calls.later (HD.out.sq _)))
 clear k0 k1 k2 k3 k4 k5
 refine wpQuiet_nil ?_
 intro W4 hb4
 have J1:=H1.on hb4
 have J2:=H2.on hb4
 have JB:=Lib.hid (chain HB hb4 (Nat.le_refl _))
 clear H1 H2 HB hb4 Pn HC2
 obtain ⟨a0,a1,a2,-,-,-⟩:=J1.aY
 obtain ⟨b0,b1,b2,-,-,-⟩:=J2.aY
 by_cases h:σ=τ
 ·as_aux_lemma =>
  subst h
  have hR:=F.out.2.2 rfl
  obtain ⟨c1,c2⟩:=f4
  have HR:=Lib.hid hR
  clear F hR
  go_wp2
  clear a0 a1 a2 b0 b1 b2
  obtain ⟨k0,k1,k2⟩:=J1.fO
  obtain ⟨k3,k4,k5⟩:=J2.fO
  refine bK (by kernel_rfl) (by kernel_rfl) ?_
  repeat (first|go_big_quiet_skip|quiet_step (first|with_reducible exact Calls.later (HD.out.dp _)|with_reducible exact Calls.later (HD.out.dq _)|with_reducible exact Calls.later (HD.out.mx _)|with_reducible exact Calls.later (HD.out.my _)|with_reducible exact Calls.later (HD.out.cm _)))
  clear k0 k1 k2 k3 k4 k5
  refine wpQuiet_nil ?_
  intro W5 hb5
  have E1:=J1.on hb5
  have EB:=Lib.hid (chain JB.out hb5 (Nat.le_refl _))
  clear J2 hb5 JB
  obtain ⟨a0,a1,a2,-,-,-⟩:=E1.aY
  cases p1
  ·go_wp2
   go_ret
   exact ⟨aS HR.out.symm,EB.out⟩
  ·have e5:IntKind.i64.wrap (-c) = -c:=IntWalk.i64_in _ (by omega)
   go_wp2
   go_ret
   exact ⟨aS HR.out.symm,EB.out⟩
 ·as_aux_lemma =>
  have e1:(σ == τ)=false:=by simp [h]
  have e2:(σ != τ)=true:=by simp [h]
  by_cases h2:σ<τ
  ·have HR:=Lib.hid (F.out.1 h2)
   clear F h
   go_wp2
   go_ret
   exact ⟨aS HR.out.symm,JB.out⟩
  ·have HR:=Lib.hid (F.out.2.1 (by omega))
   have e3:decide (σ<τ)=false:=by simp;omega
   clear F h
   go_wp2
   go_ret
   exact ⟨aS HR.out.symm,JB.out⟩
end Go.Proofs.Ins
