/- DividendTotals: for every input the law returns true. Conditions: those of the given row alone. -/
import Derived.Test.YtiaefgffeekfkaaGreatDoorZ41
set_option linter.unusedSimpArgs false
set_option linter.unusedVariables false
set_option maxHeartbeats 8000000
namespace Go.Proofs.Xe
open Go.RowKit Go.Proofs.Ins
variable {φ:Ph} {args:List V} {v:V} {cargs:Array Value} {P:Program}
theorem Ct.of {P:Program} {f:Nat} {v:V} {cargs:Array Value} {w:World} {cv:Value} (h:Calls P f cargs w fun e w'=>e = .returned cv∧Below w.heap.size w w') (hv : ∀ φ',RV φ' v cv):Ct P f v cargs w :=
 Calls.mono h fun _ _ he=>⟨cv,he.1,he.2,hv⟩
theorem rat_num {n:Bool} {x y:B} {s d:Nat} {cv:Value} (hx:x.num=some s) (hy:y.num=some d) (h:RV φ (.agg [.bool n,x,y]) cv):cv = .agg #[.bool n,.string (bn s),.string (bn d)]:=by
 obtain ⟨r,e,hr⟩:=h
 obtain ⟨l⟩:=r
 match l,hr with
 | [a,b,c],⟨h1,h2,h3,_⟩ =>
  have h1:a = .bool n:=h1
  rw [e,h1,num_spec hx h2,num_spec hy h3]
theorem ratVk_RV {n:Bool} {s d:Nat} (h:okT n s d=true) (φ:Ph):RV φ (ratVk n s d) (rv (rq n (bn s) (bn d))):=by
 rw [okT_rv h]
 exact ⟨_,rfl,rfl,rfl,rfl,trivial⟩
theorem iVk_RV (i:Int) (φ:Ph):RV φ (iVk i) (.int .i64 i):=by
 unfold iVk
 split <;> rfl
theorem cRat1_ok {f:Nat} {g:Bool→Nat→Nat→V} {R:Rat→Value} (hc : ∀ n s d w,(bn s).size≤250→(bn d).size≤250→okT n s d=true→Calls P f #[.agg #[.bool n,.string (bn s),.string (bn d)]] w fun e w'=>e = .returned (R (rq n (bn s) (bn d)))∧Below w.heap.size w w')
  (hg : ∀ n s d,okT n s d=true→∀ φ,RV φ (g n s d) (R (rq n (bn s) (bn d)))) (h:cRat1 g args=some v) (ha:RVs φ args cargs.toList) (w:World):Ct P f v cargs w:=by
 unfold cRat1 at h
 split at h
 ·next n x y =>
  split at h
  rotate_left
  ·cases h
  next s d hx hy =>
  cases hb:okT n s d with
  | false=>rw [hb] at h; cases h
  | true =>
   rw [hb] at h
   cases h
   obtain ⟨u,rfl,hu⟩:=one_arg ha
   rw [rat_num hx hy hu]
   obtain ⟨-,h1,h2,-⟩:=okT_spec hb
   exact .of (hc n s d w h1 h2 hb) (hg n s d hb)
 ·cases h
theorem cRat2_ok {f:Nat} {g:Bool→Nat→Nat→Bool→Nat→Nat→V} {R:Rat→Rat→Value}
  (hc : ∀ n1 s1 d1 n2 s2 d2 w,(bn s1).size≤250→(bn d1).size≤250→(bn s2).size≤250→(bn d2).size≤250→okT n1 s1 d1=true→okT n2 s2 d2=true→Calls P f #[.agg #[.bool n1,.string (bn s1),.string (bn d1)],.agg #[.bool n2,.string (bn s2),.string (bn d2)]] w fun e w' =>
   e = .returned (R (rq n1 (bn s1) (bn d1)) (rq n2 (bn s2) (bn d2)))∧Below w.heap.size w w')
  (hg : ∀ n1 s1 d1 n2 s2 d2,okT n1 s1 d1=true→okT n2 s2 d2=true→∀ φ,RV φ (g n1 s1 d1 n2 s2 d2) (R (rq n1 (bn s1) (bn d1)) (rq n2 (bn s2) (bn d2)))) (h:cRat2 g args=some v) (ha:RVs φ args cargs.toList) (w:World):Ct P f v cargs w:=by
 unfold cRat2 at h
 split at h
 ·next n1 x1 y1 n2 x2 y2 =>
  split at h
  rotate_left
  ·cases h
  next s1 d1 hx1 hy1 =>
  split at h
  rotate_left
  ·cases h
  next s2 d2 hx2 hy2 =>
  cases hb:(okT n1 s1 d1 && okT n2 s2 d2) with
  | false=>rw [hb] at h; cases h
  | true =>
   rw [hb] at h
   cases h
   rw [Bool.and_eq_true] at hb
   obtain ⟨u,v,rfl,hu,hv⟩:=two_args ha
   rw [rat_num hx1 hy1 hu,rat_num hx2 hy2 hv]
   obtain ⟨-,h1,h2,-⟩:=okT_spec hb.1
   obtain ⟨-,h3,h4,-⟩:=okT_spec hb.2
   exact .of (hc n1 s1 d1 n2 s2 d2 w h1 h2 h3 h4 hb.1 hb.2) (hg n1 s1 d1 n2 s2 d2 hb.1 hb.2)
 ·cases h
theorem cNat2_ok {f:Nat} {g:Nat→Nat→V} {R:Nat→Nat→Value} (hc : ∀ a b w,(bn a).size≤250→(bn b).size≤250→Calls P f #[.string (bn a),.string (bn b)] w fun e w'=>e = .returned (R a b)∧Below w.heap.size w w')
  (hg : ∀ a b φ,RV φ (g a b) (R a b)) (h:cNat2 g args=some v) (ha:RVs φ args cargs.toList) (w:World):Ct P f v cargs w:=by
 unfold cNat2 at h
 split at h
 ·next x y =>
  split at h
  rotate_left
  ·cases h
  next a b hx hy =>
  cases hb:(sm a && sm b) with
  | false=>rw [hb] at h; cases h
  | true =>
   rw [hb] at h
   cases h
   rw [Bool.and_eq_true] at hb
   obtain ⟨u,v,rfl,hu,hv⟩:=two_args ha
   have hu:u = .string (bn a):=num_spec hx hu
   have hv:v = .string (bn b):=num_spec hy hv
   rw [hu,hv]
   exact .of (hc a b w (sm_size hb.1) (sm_size hb.2)) (hg a b)
 ·cases h
theorem natV_RV (n:Nat) (φ:Ph):RV φ (natV n) (.string (bn n)):=by
 unfold natV
 rw [fN_eq]
 rfl
theorem subN_RV (a b:Nat) (φ:Ph):RV φ (subN a b) (subV a b):=by
 unfold subN
 cases h:Nat.blt a b with
 | true =>
  rw [subV_no (Nat.le_of_ble_eq_true h)]
  exact ⟨_,[.bool false],rfl,rfl,.bool false,[],rfl,rfl,rfl⟩
 | false =>
  rw [subV_yes (by
   refine Nat.le_of_not_lt fun e=>?_
   rw [show Nat.blt a b=true from Nat.ble_eq_true_of_le e] at h
   cases h),cond_false,fN_eq]
  exact ⟨_,[.bool true],rfl,rfl,.bool true,[],rfl,rfl,rfl⟩
theorem ite_some {c:Prop} [Decidable c] {x y:Option V} {v:V} (h:(if c then x else y)=some v):(c∧x=some v)∨(¬ c∧y=some v):=by
 by_cases hc:c
 ·rw [if_pos hc] at h; exact .inl ⟨hc,h⟩
 ·rw [if_neg hc] at h; exact .inr ⟨hc,h⟩
theorem okT_sm {n:Bool} {s d:Nat} (h:okT n s d=true):Sm 250 (rq n (bn s) (bn d)):=by
 obtain ⟨-,f2,f3,-⟩:=okT_f h
 unfold okT at h
 simp only [Bool.and_eq_true] at h
 refine ⟨by rw [f2]; exact sm_lt h.1,?_⟩
 rw [f3]
 unfold dD
 rw [bif_beq]
 split
 ·exact Nat.one_lt_pow (by omega) (by omega)
 ·exact sm_lt h.2.1
set_option maxRecDepth 100000 in
theorem ctr_ok (f:Nat) (args:List V) (v:V) (h:ctr f args=some v):okF Tryz.prog f∧∀ (φ:Ph) (cargs:Array Value) (w:World),RVs φ args cargs.toList→Ct Tryz.prog f v cargs w:=by
 unfold ctr at h
 replace h:=ite_some h
 rcases h with ⟨e,h⟩ | ⟨-,h⟩
 ·subst e
  exact ⟨okF_of (by kernel_rfl),fun φ cargs w ha=>cRat2_ok (R:=fun p q=>rv (p+q)) (fun n1 s1 d1 n2 s2 d2 w h1 h2 h3 h4 _ _=>add_rat n1 (bn s1) (bn d1) n2 (bn s2) (bn d2) w (by omega) (by omega)) (fun n1 s1 d1 n2 s2 d2 k1 k2 φ=>addT_RV k1 k2 φ) h ha w⟩
 replace h:=ite_some h
 rcases h with ⟨e,h⟩ | ⟨-,h⟩
 ·subst e
  exact ⟨okF_of (by kernel_rfl),fun φ cargs w ha=>cRat2_ok (R:=fun p q=>.int .i64 (cmpR p q)) (fun n1 s1 d1 n2 s2 d2 w h1 h2 h3 h4 _ _=>compare_rat n1 (bn s1) (bn d1) n2 (bn s2) (bn d2) w (by omega) (by omega)) (fun n1 s1 d1 n2 s2 d2 k1 k2 φ=>by rw [cmpT_eq k1 k2]; exact iVk_RV _ φ) h ha w⟩
 replace h:=ite_some h
 rcases h with ⟨e,h⟩ | ⟨-,h⟩
 ·subst e
  exact ⟨okF_of (by kernel_rfl),fun φ cargs w ha=>cRat2_ok (R:=fun p q=>rv (p*q)) (fun n1 s1 d1 n2 s2 d2 w h1 h2 h3 h4 _ _=>multiply_rat n1 (bn s1) (bn d1) n2 (bn s2) (bn d2) w (by omega) (by omega)) (fun n1 s1 d1 n2 s2 d2 k1 k2 φ=>mulT_RV k1 k2 φ) h ha w⟩
 replace h:=ite_some h
 rcases h with ⟨e,h⟩ | ⟨-,h⟩
 ·subst e
  exact ⟨okF_of (by kernel_rfl),fun φ cargs w ha=>cRat2_ok (R:=fun p q=>rvB (divR p q) (okR q)) (fun n1 s1 d1 n2 s2 d2 w h1 h2 h3 h4 _ _=>divide_rat n1 (bn s1) (bn d1) n2 (bn s2) (bn d2) w (by omega) (by omega)) (fun n1 s1 d1 n2 s2 d2 k1 k2 φ=>divT_RV k1 k2 φ) h ha w⟩
 replace h:=ite_some h
 rcases h with ⟨e,h⟩ | ⟨-,h⟩
 ·subst e
  exact ⟨okF_of (by kernel_rfl),fun φ cargs w ha=>cRat1_ok (R:=fun p=>.int .i64 (sg p)) (fun n s d w h1 h2 _=>sign_rat n (bn s) (bn d) w (by omega) (by omega)) (fun n s d k φ=>by rw [signT_eq k]; exact iVk_RV _ φ) h ha w⟩
 replace h:=ite_some h
 rcases h with ⟨e,h⟩ | ⟨-,h⟩
 ·subst e
  refine ⟨okF_of (by kernel_rfl),fun φ cargs w ha=>cRat2_ok (R:=fun p q=>rv (minR p q)) (fun n1 s1 d1 n2 s2 d2 w h1 h2 h3 h4 _ _=>min_rat n1 (bn s1) (bn d1) n2 (bn s2) (bn d2) w (by omega) (by omega)) (fun n1 s1 d1 n2 s2 d2 k1 k2 φ=>?_) h ha w⟩
  unfold minR
  rw [cmpT_eq k1 k2]
  by_cases hc:cmpT n1 s1 d1 n2 s2 d2≤0
  ·rw [decide_eq_true hc,if_pos hc]; exact ratVk_RV k1 φ
  ·rw [decide_eq_false hc,if_neg hc]; exact ratVk_RV k2 φ
 replace h:=ite_some h
 rcases h with ⟨e,h⟩ | ⟨-,h⟩
 ·subst e
  refine ⟨okF_of (by kernel_rfl),fun φ cargs w ha=>cRat2_ok (R:=fun p q=>rv (maxR p q)) (fun n1 s1 d1 n2 s2 d2 w h1 h2 h3 h4 _ _=>max_rat n1 (bn s1) (bn d1) n2 (bn s2) (bn d2) w (by omega) (by omega)) (fun n1 s1 d1 n2 s2 d2 k1 k2 φ=>?_) h ha w⟩
  unfold maxR
  rw [cmpT_eq k1 k2]
  by_cases hc:0≤cmpT n1 s1 d1 n2 s2 d2
  ·rw [decide_eq_true hc,if_pos hc]; exact ratVk_RV k1 φ
  ·rw [decide_eq_false hc,if_neg hc]; exact ratVk_RV k2 φ
 replace h:=ite_some h
 rcases h with ⟨e,h⟩ | ⟨-,h⟩
 ·subst e
  exact ⟨okF_of (by kernel_rfl),fun φ cargs w ha=>cRat1_ok (R:=rv) (fun n s d w h1 h2 _=>clean_any n (bn s) (bn d) w (by omega) (by omega)) (fun n s d k φ=>ratVk_RV k φ) h ha w⟩
 replace h:=ite_some h
 rcases h with ⟨e,h⟩ | ⟨-,h⟩
 ·subst e
  refine ⟨okF_of (by kernel_rfl),fun φ cargs w ha=>cRat2_ok (R:=fun p q=>rv (p+q)) (fun n1 s1 d1 n2 s2 d2 w h1 h2 h3 h4 k1 k2=>?_) (fun n1 s1 d1 n2 s2 d2 k1 k2 φ=>addT_RV k1 k2 φ) h ha w⟩
  have:=plusR_any (rq n1 (bn s1) (bn d1)) (rq n2 (bn s2) (bn d2)) 250 250 w (okT_sm k1) (okT_sm k2) (by omega)
  obtain ⟨a1,-,-,a2,a3⟩:=okT_f k1
  obtain ⟨b1,-,-,b2,b3⟩:=okT_f k2
  rw [a1,a2,a3,b1,b2,b3] at this
  exact this
 replace h:=ite_some h
 rcases h with ⟨e,h⟩ | ⟨-,h⟩
 ·subst e
  refine ⟨okF_of (by kernel_rfl),fun φ cargs w ha=>cRat1_ok (g:=fun _ _ _=>.c (.bool true)) (R:=fun _=>.bool true) (fun n s d w h1 h2 k=>?_) (fun n s d k φ=>rfl) h ha w⟩
  have:=valid_any n (bn s) (bn d) w (by omega) (by omega)
  rwa [vldB_true (okT_spec k).1] at this
 replace h:=ite_some h
 rcases h with ⟨e,h⟩ | ⟨-,h⟩
 ·subst e
  refine ⟨okF_of (by kernel_rfl),fun φ cargs w ha=>?_⟩
  unfold cInt at h
  split at h
  ·next i =>
   cases hb:inR .i64 i with
   | false=>rw [hb] at h; cases h
   | true =>
    rw [hb] at h
    cases h
    obtain ⟨u,rfl,hu⟩:=one_arg ha
    have hu:u = .int .i64 i:=hu
    rw [hu]
    have hr : -9223372036854775808≤i∧i≤9223372036854775807:=by
     cases i with
     | ofNat m=>have:=Nat.le_of_ble_eq_true hb; simp only [Int.ofNat_eq_natCast]; omega
     | negSucc m=>have:=Nat.le_of_ble_eq_true hb; omega
    exact .of (int_any i w hr.1 hr.2) (intT_RV i)
  ·cases h
 replace h:=ite_some h
 rcases h with ⟨e,h⟩ | ⟨-,h⟩
 ·subst e
  refine ⟨okF_of (by kernel_rfl),fun φ cargs w ha=>?_⟩
  unfold cMake at h
  split at h
  ·next n x0 y0 =>
   split at h
   rotate_left
   ·cases h
   next a b hx0 hy0 =>
   cases hb:(sm a && sm b) with
   | false=>rw [hb] at h; cases h
   | true =>
    rw [hb] at h
    rw [Bool.and_eq_true] at hb
    simp only [cond_true,Option.some.injEq] at h
    obtain ⟨u,x,t,rfl,hu,hx,ht⟩:=three_args ha
    have hu:u = .bool n:=hu
    have hx:x = .string (bn a):=num_spec hx0 hx
    have ht:t = .string (bn b):=num_spec hy0 ht
    rw [hu,hx,ht]
    have s1:=sm_size hb.1
    have s2:=sm_size hb.2
    rw [bif_beq] at h
    by_cases h0:b=0
    ·rw [if_pos h0] at h
     rw [← h]
     exact .of (make_no n _ _ w (by omega) (by rw [nv_bn]; exact h0)) (fun φ=>withB_RV (zero_RV φ))
    ·rw [if_neg h0] at h
     rw [← h]
     have:=make_yes n (bn a) (bn b) w (by omega) (by omega) (by rw [nv_bn]; omega)
     rw [nv_bn,nv_bn] at this
     exact .of this (fun φ=>withB_RV (enc_RV (by omega) φ))
  ·cases h
 replace h:=ite_some h
 rcases h with ⟨e,h⟩ | ⟨-,h⟩
 ·subst e
  refine ⟨okF_of (by kernel_rfl),fun φ cargs w ha=>?_⟩
  unfold cFrom at h
  split at h
  ·next u =>
   cases hb:Nat.blt u 18446744073709551616 with
   | false=>rw [hb] at h; cases h
   | true =>
    rw [hb] at h
    cases h
    obtain ⟨x,rfl,hx⟩:=one_arg ha
    have hx:x = .int .u64 (u:Int):=hx
    rw [hx]
    exact .of (fromUint_any u w (Nat.le_of_ble_eq_true hb)) (fun φ=>rfl)
  ·cases h
 replace h:=ite_some h
 rcases h with ⟨e,h⟩ | ⟨-,h⟩
 ·subst e
  refine ⟨okF_of (by kernel_rfl),fun φ cargs w ha=>cNat2_ok (R:=fun a b=>.string (bn (a+b))) (fun a b w h1 h2=>?_) (fun a b φ=>natV_RV _ φ) h ha w⟩
  have:=add_any (bn a) (bn b) w (by omega) (by omega)
  rwa [nv_bn,nv_bn] at this
 replace h:=ite_some h
 rcases h with ⟨e,h⟩ | ⟨-,h⟩
 ·subst e
  refine ⟨okF_of (by kernel_rfl),fun φ cargs w ha=>cNat2_ok (R:=subV) (fun a b w h1 h2=>?_) (fun a b φ=>subN_RV a b φ) h ha w⟩
  have:=subtractS_any (bn a) (bn b) w (by omega) (by omega)
  rwa [nv_bn,nv_bn] at this
 replace h:=ite_some h
 rcases h with ⟨e,h⟩ | ⟨-,h⟩
 ·subst e
  refine ⟨okF_of (by kernel_rfl),fun φ cargs w ha=>cNat2_ok (R:=fun a b=>.string (bn (a*b))) (fun a b w h1 h2=>?_) (fun a b φ=>natV_RV _ φ) h ha w⟩
  have:=multiply_any (bn a) (bn b) w (by omega) (by omega)
  rwa [nv_bn,nv_bn] at this
 replace h:=ite_some h
 rcases h with ⟨e,h⟩ | ⟨-,h⟩
 ·subst e
  refine ⟨okF_of (by kernel_rfl),fun φ cargs w ha=>cNat2_ok (R:=fun a b=>.string (bn (Nat.gcd a b))) (fun a b w h1 h2=>?_) (fun a b φ=>natV_RV _ φ) h ha w⟩
  have:=gcd_any (bn a) (bn b) w (by omega) (by omega)
  rwa [nv_bn,nv_bn] at this
 replace h:=ite_some h
 rcases h with ⟨e,h⟩ | ⟨-,h⟩
 ·subst e
  refine ⟨okF_of (by kernel_rfl),fun φ cargs w ha=>?_⟩
  unfold cDivN at h
  split at h
  ·next x0 y0 =>
   split at h
   rotate_left
   ·cases h
   next a b hx0 hy0 =>
   cases hb:(sm a && (sm b && !Nat.beq b 0)) with
   | false=>rw [hb] at h; cases h
   | true =>
    rw [hb] at h
    cases h
    simp only [Bool.and_eq_true,Bool.not_eq_true'] at hb
    obtain ⟨u,x,rfl,hu,hx⟩:=two_args ha
    have hu:u = .string (bn a):=num_spec hx0 hu
    have hx:x = .string (bn b):=num_spec hy0 hx
    rw [hu,hx]
    have s1:=sm_size hb.1
    have s2:=sm_size hb.2.1
    have h0:0<b:=Nat.pos_of_ne_zero fun e=>by rw [e] at hb; exact absurd hb.2.2 (by decide)
    have:=divideS_any (bn a) (bn b) w (by omega) (by omega) (by rw [nv_bn]; exact h0)
    rw [nv_bn,nv_bn] at this
    refine .of this fun φ=>?_
    simp only [fN_eq]
    exact ⟨_,[.string (bn (a%b)),.bool true],rfl,rfl,_,[.bool true],rfl,rfl,.bool true,[],rfl,rfl,rfl⟩
  ·cases h
 replace h:=ite_some h
 rcases h with ⟨e,h⟩ | ⟨-,h⟩
 ·subst e
  refine ⟨okF_of (by kernel_rfl),fun φ cargs w ha=>?_⟩
  unfold cInt at h
  split at h
  ·next i =>
   cases hb:inR .i64 i with
   | false=>rw [hb] at h; cases h
   | true =>
    rw [hb] at h
    cases h
    obtain ⟨u,rfl,hu⟩:=one_arg ha
    have hu:u = .int .i64 i:=hu
    rw [hu]
    have hr : -9223372036854775808≤i∧i≤9223372036854775807:=by
     cases i with
     | ofNat m=>have:=Nat.le_of_ble_eq_true hb; simp only [Int.ofNat_eq_natCast]; omega
     | negSucc m=>have:=Nat.le_of_ble_eq_true hb; omega
    exact .of (whole_any i w hr.1 hr.2) (intT_RV i)
  ·cases h
 cases h
theorem orcC_ok (f:Nat) (args:List V) (σ:St) (v:V) (σ' : St) (h:orcC f args σ=some (v,σ')):okF Tryz.prog f∧∀ (N:Nat) (w0:World) (φ:Ph) (w:World) (cargs:Array Value),Rel N w0 φ σ w→RVs φ args cargs.toList →
  Calls Tryz.prog f cargs w fun e w'=>∃ cv,e = .returned cv∧∃ φ',Ext σ.nxt φ φ'∧Rel N w0 φ' σ' w'∧RV φ' v cv∧σ.nxt≤σ'.nxt:=by
 unfold orcC at h
 split at h
 ·next u hu =>
  cases h
  obtain ⟨h1,h2⟩:=ctr_ok f args _ hu
  refine ⟨h1,fun N w0 φ w cargs hR ha=>(h2 φ cargs w ha).mono fun e w' he=>?_⟩
  obtain ⟨cv,rfl,hb,hv⟩:=he
  exact ⟨cv,rfl,φ,Ext.refl _ _,hR.below hb,hv φ,Nat.le_refl _⟩
 ·cases h
theorem isT_spec {o:Option (V×St)} (h:isT o=true) : ∃ σ,o=some (.c (.bool true),σ):=by
 unfold isT at h
 split at h
 ·next σ=>exact ⟨σ,rfl⟩
 ·cases h
end Go.Proofs.Xe
namespace Go.Proofs.Xe
open Go Go.RowKit Go.Proofs.Ins
noncomputable section
noncomputable def om {α β:Type} (f:α→Option β):List α→Option (List β)
 | []=>some []
 | x::l=>match f x,om f l with | some y,some r=>some (y::r) | _,_=>none
noncomputable def fL {α:Sort _} : List Nat→(List Nat→α)→α
 | [],k=>k []
 | x::l,k=>fN x fun x=>fL l fun l=>k (x::l)
noncomputable def tB:Value→Option B
 | .int k n=>some (.int k n)
 | .bool b=>some (.bool b)
 | .string s=>bif Nat.beq s.size 0 then some (.str ⟨#[]⟩) else none
 | .pointer none=>some .nilp
 | .slice none 0 0=>some .nils
 | _=>none
noncomputable def tV:Value→Option V
 | .agg r=>(om tB r.toList).map .agg
 | .nilFunc=>some .nilf
 | v=>(tB v).map .c
noncomputable def tO:Operand→Option O
 | .tmp t=>some (.t t)
 | .const v=>(tV v).map .k
 | .func f=>some (.k (.fn f []))
 | _=>none
noncomputable def tOO:Option Operand→Option (Option O)
 | none=>some none
 | some x=>(tO x).map some
noncomputable def tZ (P:Program) (t:TypeId):Option (List B):=match P.info? t with
 | some i=>(match i.zero with | some z=>om tB z.cells.toList | none=>none)
 | none=>none
noncomputable def tTy (P:Program) (t:TypeId):Option (Nat×Bool):=match P.info? t,P.underlying t with
 | some i,some d=>fN i.size fun n=>some (n,aggD d)
 | _,_=>none
noncomputable def tEl (P:Program) (t:TypeId):Option TypeId:=match P.underlying t with | some (.slice e)=>some e | _=>none
noncomputable def tSz (P:Program) (t:TypeId):Option Nat:=match P.info? t with | some i=>fN i.size some | none=>none
noncomputable def tBy (P:Program) (t:TypeId):Option Nat:=match P.info? t with | some i=>fN i.bytes some | none=>none
noncomputable def tPs (g:Nat→Option (Nat×Nat)):List (Nat×Operand)→Option (List (Nat×Nat×O)):=om fun x=>match g x.1,tO x.2 with | some p,some y=>fN p.1 fun a=>fN p.2 fun b=>some (a,b,y) | _,_=>none
noncomputable def eqK:BinOp→Option Bool
 | .eql=>some true
 | .neq=>some false
 | _=>none
noncomputable def tEq (P:Program) (p:Bool) (t:TypeId) (x:O) (y:Operand) (z:O):Option AOp:=match P.underlying t with
 | some .bool=>some (.eqb p x z)
 | some (.struct _)=>some (.eqagg p x z)
 | some (.slice _)=>some (.nil 0 p x)
 | some (.pointer _)=>some (.nil 1 p x)
 | some (.func ..)=>some (.nil 2 p x)
 | _=>none
noncomputable def tOp (P:Program):Op→Option AOp
 | .move x | .assign x=>do some (.mov (← tO x))
 | .pick c a b=>do some (.pick (← tO c) (← tO a) (← tO b))
 | .load t x=>do
  let g←tTy P t
  some (.load g.1 g.2 (← tO x))
 | .store t x u=>do some (.store (← tSz P t) (← tO x) (← tO u))
 | .fieldAddr s x f=>do
  let fd←fieldOk P s f
  some (.faddr fd.offset (← tO x))
 | .field s x f=>do
  let fd←fieldOk P s f
  let g←tTy P fd.type
  some (.field fd.offset g.1 g.2 (← tO x))
 | .indexAddr t x i=>match P.underlying t,i with
  | some (.slice el),i=>do some (.iaddr (← tSz P el) (← tO x) (← tO i))
  | some (.array _ el),.const (.int _ (.ofNat j))=>do
   let n←tSz P el
   let y←tO x
   fN (j*n) fun m=>some (.faddr m y)
  | _,_=>none
 | .extract x i=>do some (.ext i (← tO x))
 | .binOp b t x y _=>do
  let x'←tO x
  let y'←tO y
  match eqK b with
  | some p=>(match tEq P p t x' y y' with | some r=>some r | none=>some (.bin b x' y'))
  | none=>some (.bin b x' y')
 | .unOp .not _ x=>do some (.not (← tO x))
 | .convert _ d x=>match P.underlying d with
  | some (.int k)=>do some (.conv k (← tO x))
  | _=>none
 | .build t ps=>match P.underlying t with
  | some (.struct fs)=>do
   let pl←placesOf P fs.toList
   some (.build (← tZ P t) (← tPs (fun i=>pl[i]?) ps.toList))
  | _=>none
 | .makeMap t none=>bif Nat.beq t 149 then some .mkset else some .mkmap
 | .lookup _ m k false=>do some (.lookup (← tO m) (← tO k))
 | .mapUpdate _ m k v=>do some (.mupd (← tO m) (← tO k) (← tO v))
 | .makeFunc (.func f) _ cs=>do some (.mkfn f (← om tO cs.toList))
 | .slice t x lo hi mx=>do
  let e←tEl P t
  some (.slice (← tSz P e) (← tO x) (← tOO lo) (← tOO hi) (← tOO mx))
 | .nilCheck x=>do some (.nchk (← tO x))
 | .alloc e=>do some (.alloc (← tZ P e))
 | .box _ x=>do some (.box (← tO x))
 | .makeSlice t l c=>do
  let e←tEl P t
  some (.mksl (← tBy P e) (← tZ P e) (← tO l) (← tO c))
 | .buildSlice t len ps=>do
  let e←tEl P t
  let n←tSz P e
  some (.bsl n len (← tZ P e) (← tPs (fun i=>some (i*n,n)) ps.toList))
 | .call c=>match c.callee,c.args.toList,c.argTypes.toList with
  | .value f,xs,_=>do some (.call (← tO f) (← om tO xs))
  | .builtin .len,[x],_=>do some (.len (← tO x))
  | .builtin .min,[x,y],_=>do some (.min2 (← tO x) (← tO y))
  | .builtin .append,[s,x],[t,_]=>do
   let e←tEl P t
   some (.app e (← tSz P e) (← tBy P e) (← tO s) (← tO x))
  | _,_,_=>none
 | _=>none
noncomputable def tAO (P:Program) (ops:Array Oper) (o:Oper):Option AO:=match tOp P o.op with
 | some a=>(match o.guard with
  | none=>some ⟨o.dst,none,a⟩
  | some (j,b)=>(match (ops[j]?).bind (·.dst) with | some d=>some ⟨o.dst,some (d,b),a⟩ | none=>none))
 | none=>none
noncomputable def uni:List Nat→List Nat→List Nat
 | [],l=>l
 | x::r,l=>bif l.contains x then uni r l else uni r (x::l)
noncomputable def ptE (acc:List (List Nat)):List Edge→List Nat→List Nat
 | [],l=>l
 | e::r,l=>bif Region.binds .any e then fL (uni (e.on::acc.getD e.on []) l) (ptE acc r) else ptE acc r l
noncomputable def ptL {α:Sort _} : List Oper→List (List Nat)→(List (List Nat)→α)→α
 | [],acc,k=>k acc
 | o::r,acc,k=>fL (ptE acc o.after.toList []) fun l=>ptL r (acc ++ [l]) k
noncomputable def actL:List AO→Nat→List Nat
 | [],_=>[]
 | a::l,i=>bif quietK a.op.kind then actL l (i+1) else i::actL l (i+1)
noncomputable def setBy:List AO→Nat→Nat→Option Nat
 | [],_,_=>none
 | a::l,i,t=>bif (match a.dst with | some d=>Nat.beq d t | none=>false) then some i else setBy l (i+1) t
noncomputable def tmsOf:List Operand→List Nat
 | []=>[]
 | .tmp t::l=>t::tmsOf l
 | _::l=>tmsOf l
noncomputable def lookL (aos:List AO) (w:List Nat):List Nat→List Nat×List Nat
 | []=>([],[])
 | t::l=>match setBy aos 0 t,lookL aos w l with
  | some p,(us,os)=>bif w.contains p then (uni [p] us,os) else (us,uni [t] os)
  | none,r=>r
noncomputable def stageL (w:List Nat):List Nat→Nat→Nat→Nat
 | [],_,b=>b
 | x::l,k,b=>bif w.contains x then stageL w l (k+1) k else stageL w l (k+1) b
noncomputable def tDos (pt:List (List Nat)) (acts:List Nat) (aos:List AO):List Oper→List AO→Nat→List (Nat×DO)
 | o::r,a::l,i =>
  let w:=pt.getD i []
  match lookL aos w (match a.g with | some (t,_)=>t::tmsOf o.op.operands.toList | none=>tmsOf o.op.operands.toList) with
  | (us,os)=>fL us fun us=>fL os fun os=>fN (stageL w acts 1 0) fun s=>fN i fun i=>(s,⟨i,us,os,a⟩)::tDos pt acts aos r l (i+1)
 | _,_,_=>[]
noncomputable def qOf (s:Nat):List (Nat×DO)→(List DO→Option Dr)→Option Dr
 | [],k=>k []
 | (t,d)::l,k=>bif Nat.beq t s && quietK d.o.op.kind then qOf s l fun r=>k (d::r) else qOf s l k
noncomputable def actOf (x:Nat):List (Nat×DO)→Option DO
 | []=>none
 | (_,d)::l=>bif Nat.beq d.i x then some d else actOf x l
noncomputable def tDr (dos:List (Nat×DO)):List Nat→Nat→Option Dr
 | [],s=>qOf s dos fun q=>some (.fin q)
 | x::r,s=>match actOf x dos,tDr dos r (s+1) with
  | some d,some D=>qOf s dos fun q=>some (.act q d D)
  | _,_=>none
noncomputable def dsL:List AO→List Nat
 | []=>[]
 | a::l=>match a.dst with | some d=>d::dsL l | none=>dsL l
noncomputable def tReg (P:Program) (ops:Array Oper):Bool→Option AC
 | false=>(om (tAO P ops) ops.toList).map .ops
 | true=>match om (tAO P ops) ops.toList with
  | some aos=>ptL ops.toList [] fun pt=>fL (actL aos 0) fun acts=>(match tDr (tDos pt acts aos ops.toList aos 0) acts 0 with
   | some D=>fL (dsL aos) fun ds=>some (.drawn D pt ds)
   | none=>none)
  | none=>none
noncomputable def tC (P:Program):Code→Option AC
 | .skip | .label _=>some .skip
 | .region _ ops dr=>tReg P ops dr
 | .seq a b=>match tC P a,tC P b with | some x,some y=>some (.seq x y) | _,_=>none
 | .cond c a b=>match tO c,tC P a,tC P b with | some z,some x,some y=>some (.cond z x y) | _,_,_=>none
 | .block i a=>match tC P a with | some x=>some (.block i x) | none=>none
 | .loop a=>match tC P a with | some x=>some (.loop x) | none=>none
 | .exit i=>some (.exit i)
 | .ret=>some .ret
 | _=>none
noncomputable def tRes (P:Program):List ResultVar→Option (List (Nat×Option (Nat×Bool)))
 | []=>some []
 | .tmp t::r=>match tRes P r with | some l=>some ((t,none)::l) | none=>none
 | .cell t ty::r=>match tTy P ty,tRes P r with | some g,some l=>some ((t,some g)::l) | _,_=>none
noncomputable def tF (P:Program) (f:Nat):Option AF:=match P.funcs[f]? with
 | some fn=>(match fn.body with
  | some c=>(match tC P c,tRes P fn.results.toList with
   | some b,some r=>fN fn.ntmps fun n=>bif impF P f ⟨n,b,r⟩ then some ⟨n,b,r⟩ else none
   | _,_=>none)
  | none=>none)
 | none=>none
theorem tF_ok {P:Program} {f:Nat} {F:AF} (h:tF P f=some F):impF P f F=true:=by
 unfold tF at h
 split at h
 ·split at h
  ·split at h
   ·next b r _ _ =>
    rw [fN_eq] at h
    cases hi:impF P f ⟨_,b,r⟩ with
    | false=>rw [hi] at h; cases h
    | true=>rw [hi] at h; cases h; exact hi
   ·cases h
  ·cases h
 ·cases h
noncomputable def fnsK (f:Nat):Option AF:=tF Tryz.prog f
theorem fnsK_ok (f:Nat) (F:AF) (h:fnsK f=some F):impF Tryz.prog f F=true:=by
 unfold fnsK at h
 exact tF_ok h
noncomputable def EK:Env:=⟨fnsK,orcC⟩
theorem EK_ok:EnvOk Tryz.prog EK:=by
 refine ⟨?_,?_⟩
 ·intro f F h
  unfold EK at h
  dsimp only at h
  exact fnsK_ok f F h
 ·intro f args σ v σ' h
  unfold EK at h
  exact orcC_ok f args σ v σ' h
end
end Go.Proofs.Xe
namespace Go.Proofs.Xe
open Go.RowKit Go.Proofs Go.Proofs.Ins
theorem awake_run:isT (callF EK 2000 23 [] ⟨.leaf,0⟩)=true:=by kernel_rfl
theorem awake23:AwakeOk 23:=by
 obtain ⟨σ,hσ⟩:=isT_spec awake_run
 refine ⟨okF_of (by kernel_rfl),fun w=>?_⟩
 have hR:Rel w.heap.size w (fun _=>none) ⟨.leaf,0⟩ w:=by
  refine ⟨Nat.le_refl _,Below.refl _ _,fun _ _ _ _ h=>?_,fun _ _ h=>?_,fun _ _ _ _ h=>?_,fun _ _ _ _ h=>?_,fun b _=>⟨rfl,?_⟩⟩
  ·cases h
  ·cases h
  ·cases h
  ·cases h
  ·exact Tr.get_leaf b
 refine (call_from EK_ok (by kernel_rfl) hσ hR (cargs:=#[]) trivial).mono fun e w' he=>?_
 obtain ⟨cv,rfl,φ',-,hR',hv,-⟩:=he
 have hv:cv = .bool true:=hv
 exact ⟨by rw [hv],hR'.bel⟩
end Go.Proofs.Xe
namespace Go.Proofs.Xe
open Go.RowKit Go.Proofs.Ins
theorem law_of {f:Nat} {args:List V} {cargs:Array Value} {W:World} (h:CallX EN f args (St.of W) fun r _=>r = .c (.bool true)) (ha:RVs (Ph.id W.heap.size) args cargs.toList) :
  Calls Tryz.prog f cargs W fun e w'=>e = .returned (.bool true)∧Below W.heap.size W w':=by
 obtain ⟨n,v,σ',h1,rfl⟩:=h
 refine (call_from EN_ok (by kernel_rfl) h1 (Rel.of W) ha).mono fun e w' he=>?_
 obtain ⟨cv,rfl,φ',-,hR',hv,-⟩:=he
 have hv:cv = .bool true:=hv
 exact ⟨by rw [hv],hR'.bel⟩
theorem law_totals {W:World} {nm:Nat} {v2 v3 v4 v5:Value} (hnm:nm≤255) {n2 n3 n4 n5:Nat} {M:Nat→Nat} {L D:Nat→Nat→Nat} {R:Nat→B} {ns:Nat→Nat} {G:Nat→Nat→Nat} (h2:HL (St.of W).h 1 (absB W.heap.size v2) n2 fun i=>[.int .u16 (.ofNat (M i))]) (hM : ∀ i,i<n2→M i≤65535)
  (h3:HL (St.of W).h 4 (absB W.heap.size v3) n3 fun i=>[.int .u16 (.ofNat (L i 0)),.int .u16 (.ofNat (L i 1)),.int .u16 (.ofNat (L i 2)),.int .u16 (.ofNat (L i 3))]) (hL : ∀ i j,i<n3→L i j≤65535) (hn3:n3≤140737488351232)
  (h4:HL (St.of W).h 3 (absB W.heap.size v4) n4 fun i=>[.int .u16 (.ofNat (D i 0)),.int .u16 (.ofNat (D i 1)),.int .u16 (.ofNat (D i 2))]) (hD : ∀ i j,i<n4→D i j≤65535) (hn4:n4≤140737488351232)
  (h5:HL (St.of W).h 1 (absB W.heap.size v5) n5 fun i=>[R i]) (hR : ∀ i,i<n5→HL (St.of W).h 1 (R i) (ns i) fun k=>[.int .u16 (.ofNat (G i k))]) (hG : ∀ i,i<n5→∀ k,k<ns i→G i k≤65535) (hn5:n5≤140737488351232) :
  Calls Tryz.prog 6 #[.int .u8 (nm:Int),v2,v3,v4,v5] W fun e w'=>e = .returned (.bool true)∧Below W.heap.size W w' :=
 law_of (law_totals_x (WF.of W) awake23 hnm M L D h2 hM h3 hL (by omega) h4 hD (by omega) R ns G h5 hR hG (by omega)) ⟨rfl,absB_RB _ _ h2.kn,absB_RB _ _ h3.kn,absB_RB _ _ h4.kn,absB_RB _ _ h5.kn,trivial⟩
end Go.Proofs.Xe
namespace Go.Proofs.Xe
open Go Go.RowKit Go.ChangeShapes Go.WideShapes Go.ChangeAt Go.Proofs.Ins Go.Proofs.YtiaefgffeekfkaaGreatDoor
set_option maxRecDepth 100000 in
theorem totals_lifted (os:Os) (started:os.Started) (H:Type) (enc:TypeId×Value→H) :
  ReturnsInHanded {} Tryz.checked os 6 .any (fun w args=>(Rows.dividendTotalsSpec.pre enc Tryz.prog Tryz.f6 [] false w args∧laidMetH Tryz.prog laidL w)∧sizedMet enc Tryz.prog Tryz.f6 (OpenSpec.ofChange Rows.dividendTotalsSpec) false w args)
   (Rows.dividendTotalsSpec.post enc Tryz.prog Tryz.f6 false true false false):=by
 refine returnsInHanded_of_change_and (C:=Tryz.checked) (X:=fun w _=>laidMetH Tryz.prog laidL w) (fun _ _ _ hh h=>h.of_heap hh) own' started (by kernel_rfl) Tryz.func6
  (ChangeSpec.witness_shaped (enc:=enc) (C:=Tryz.checked) (os:=os) (X:=fun w _=>laidMetH Tryz.prog laidL w) false (World.laidAll Tryz.prog os laidL) #[.int .u8 0,.slice none 0 0,.slice none 0 0,.slice none 0 0,.slice none 0 0] 8 (World.laidAll_os _ _ _)
   (World.shaped_of_ZipB (by kernel_rfl) (by kernel_rfl)) (by kernel_rfl) (by kernel_rfl) (by kernel_rfl)
   (by rw [MakeChecks.laidMetH_plain _ _ _ (by kernel_rfl)]; exact laidMet_laidAll _ (by kernel_rfl) (by kernel_rfl))) ?_
 intro W base args ds gs before hval0 hW hc hsz hL _
 have hval : ∀ (j:Nat) t v,Tryz.f6.params[j]?=some t→args[j]?=some v→Value.okWide Tryz.prog W .any base t v:=hval0
 have hW':=hW
 obtain ⟨p,q,hA0,hV,rfl,_,_⟩:=hW
 have hA:DataW.TrodAll enc Tryz.prog W 0 (fun _=>true) true Tryz.f6.params.toList args.toList ds p:=hA0
 have hsz1:(DataW.weightsEach Tryz.prog (Tryz.f6.params.toList ++ Rows.dividendTotalsSpec.plain.varTypes Tryz.prog) (ds ++ gs)).all (·≤reachBytes)=true:=hsz
 obtain ⟨rfl,rfl⟩:=trodVars_none hV
 rw [Tryz.params6] at hsz1 hval hA
 clear hA0 hval0 hsz hc hL hV
 obtain ⟨v1,vs1,d1,ds1,p1,q1,e1,rfl,rfl,h1,hA⟩:=trodAll_cons hA
 obtain ⟨v2,vs2,d2,ds2,p2,q2,rfl,rfl,rfl,h2,hA⟩:=trodAll_cons hA
 obtain ⟨v3,vs3,d3,ds3,p3,q3,rfl,rfl,rfl,h3,hA⟩:=trodAll_cons hA
 obtain ⟨v4,vs4,d4,ds4,p4,q4,rfl,rfl,rfl,h4,hA⟩:=trodAll_cons hA
 obtain ⟨v5,vs5,d5,ds5,p5,q5,rfl,rfl,rfl,h5,hA⟩:=trodAll_cons hA
 obtain ⟨rfl,rfl,rfl⟩:=trodAll_nil hA
 obtain rfl:args = #[v1,v2,v3,v4,v5]:=by rw [← Array.toArray_toList (xs:=args),e1]
 clear hA e1
 obtain ⟨D1,rfl,b1⟩:=v_u8 (hval 0 _ _ rfl rfl) h1
 obtain ⟨a2,n2,c2,f2,rfl,o2⟩:=val_slice Tryz.underlying22 (hval 1 _ _ rfl rfl) h2
 obtain ⟨w2,m2,D2,e2,l2,s2,b2⟩:=x_u16s o2 (light_arg hsz1 (j:=1) rfl rfl)
 obtain rfl:w2 = .slice a2 n2 c2:=by simpa using e2.symm
 obtain ⟨a3,n3,c3,f3,rfl,o3⟩:=val_slice Tryz.underlying23 (hval 2 _ _ rfl rfl) h3
 obtain ⟨w3,m3,D3,e3,l3,s3,b3⟩:=x_arrs o3 (light_arg hsz1 (j:=2) rfl rfl)
 obtain rfl:w3 = .slice a3 n3 c3:=by simpa using e3.symm
 obtain ⟨a4,n4,c4,f4,rfl,o4⟩:=val_slice Tryz.underlying41 (hval 3 _ _ rfl rfl) h4
 obtain ⟨w4,m4,D4,e4,l4,s4,b4⟩:=x_arrs3 o4 (light_arg hsz1 (j:=3) rfl rfl)
 obtain rfl:w4 = .slice a4 n4 c4:=by simpa using e4.symm
 obtain ⟨a5,n5,c5,f5,rfl,o5⟩:=val_slice Tryz.underlying25 (hval 4 _ _ rfl rfl) h5
 obtain ⟨w5,m5,R5,k5,D5,e5,l5,s5,r5,b5⟩:=x_u16ss o5 (light_arg hsz1 (j:=4) rfl rfl)
 obtain rfl:w5 = .slice a5 n5 c5:=by simpa using e5.symm
 exact law_post rfl rfl rfl (by kernel_rfl) hW' (law_totals b1 s2 b2 s3 b3 l3 s4 b4 l4 s5 r5 b5 l5)
end Go.Proofs.Xe
