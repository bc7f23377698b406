/- The executor, run by the kernel: the contracts hold of the program. -/
import Derived.Test.YtiaefgffeekfkaaGreatDoorY40
set_option linter.unusedSimpArgs false
set_option linter.unusedVariables false
set_option maxHeartbeats 8000000
namespace Go.Proofs.Xe
open Go.RowKit Go.Proofs.Ins
set_option maxRecDepth 10000 in
theorem group21_x {σ:St} (hW:WF σ) {nm ncash nl np nd late:Nat} (hnm:nm≤255) {cv lv pv dv:B} (M:Nat→Nat) (L P D:Nat→Nat→Nat) (hcv:HL σ.h 1 cv ncash fun i=>[.int .u16 (.ofNat (M i))]) (hM : ∀ i,i<ncash→M i≤65535)
  (hlv:HL σ.h 4 lv nl fun i=>[.int .u16 (.ofNat (L i 0)),.int .u16 (.ofNat (L i 1)),.int .u16 (.ofNat (L i 2)),.int .u16 (.ofNat (L i 3))]) (hL : ∀ i j,i<nl→L i j≤65535) (hnl:nl≤9223372036854775806)
  (hpv:HL σ.h 3 pv np fun i=>[.int .u16 (.ofNat (P i 0)),.int .u16 (.ofNat (P i 1)),.int .u16 (.ofNat (P i 2))]) (hP : ∀ i j,i<np→P i j≤65535) (hnp:np≤9223372036854775806)
  (hdv:HL σ.h 3 dv nd fun i=>[.int .u16 (.ofNat (D i 0)),.int .u16 (.ofNat (D i 1)),.int .u16 (.ofNat (D i 2))]) (hD : ∀ i j,i<nd→D i j≤65535) (hnd:nd≤9223372036854775806) (hlate:late≤65535) :
  CallX EN 10 [.c (.int .u8 (.ofNat nm)),.c cv,.c lv,.c pv,.c dv,.c (.int .u16 (.ofNat late))] σ fun r σ'=>∃ ev dv' g,r = .agg [ev,dv']∧Built σ σ' ev dv' g:=by
 refine call_fn (O_l21_group _ _) F_l21_group ?_
 unfold a_l21_group
 simp (maxSteps:=9^9) (disch:=first|assumption|decide|omega) only [go_sem,z3]
 refine CallX.st (Fr σ) (fr) fun hF1=>?_
 refine (group_x hF1.wf hnm M L P D (hcv.fr hW hF1) hM (hlv.fr hW hF1) hL hnl (hpv.fr hW hF1) hP hnp (hdv.fr hW hF1) hD hnd).mono ?_
 rintro _ σ2 ⟨eb,dv',m,cl,bs,A,al,dl,rfl,hI⟩
 have hF2:=hF1.trans hI.fr
 have hle2:=hF2.le
 have hnx:σ.nxt+1+1+1≤σ2.nxt:=hI.nx
 have q0:σ2.h σ.nxt=some ⟨[.nils,.nils],none⟩:=hI.fr.get hF1.wf (hset_get _ _ _)
 have hn4:1+nm%4≤4:=by omega
 have hlo:σ.nxt+1≤σ.nxt+1+1+1:=by omega
 simp (maxSteps:=9^9) (disch:=first|assumption|decide|omega) only [go_sem,z3]
 refine (late_x hF2.wf hI.fr hI.g (by show σ.nxt+1≤σ.nxt+1+1+1;omega) (Nat.le_refl _) (by omega) (fun i hi=>by have:=(hI.c i hi).1;omega) late hlate).mono ?_
 rintro _ σ3 ⟨rfl,⟨cl',hg,hl⟩,hf3,hle23⟩
 have hF3:=hF1.trans hf3
 have q0' : σ3.h σ.nxt=some ⟨[.nils,.nils],none⟩:=hf3.get hF1.wf (hset_get _ _ _)
 have hdk:=hg.d.kn
 simp (maxSteps:=9^9) (disch:=first|assumption|decide|omega) only [go_sem,z3,sto_blk q0',hdk]
 have hfr:Fr σ ⟨hset σ3.h σ.nxt ⟨[.sl eb 0 (1+nm%4) .opn,dv'],none⟩,σ3.nxt⟩:=fr
 have hg' : OGrp (hset σ3.h σ.nxt ⟨[.sl eb 0 (1+nm%4) .opn,dv'],none⟩) dv' (1+nm%4) eb m cl' bs A al dl (σ.nxt+1+1+1) σ3.nxt:=hg.mono (fun b h1 h2=>by
  have h1:σ.nxt+1+1+1≤b:=h1
  exact hset_ne _ _ _ _ (by omega)) hle23
 have hcl : ∀ i,i<1+nm%4→(cl' i).length=(cl i).length:=fun i hi=>(hl i hi).1
 exact ⟨_,_,_,rfl,hg'.built hn4 (by omega) (Nat.le_refl _) hI.m (fun i hi=>⟨by rw [hcl i hi];exact (hI.c i hi).1,fun k hk=>by
  rw [hcl i hi] at hk
  rw [((hl i hi).2 k hk).2.1]
  exact ((hI.c i hi).2 k hk).2.2⟩) (fun i hi=>by rw [hcl i hi];exact hI.a i hi) hI.d hfr⟩
theorem x_SameGroup {E:Env} [HasA E] {p p' : Nat→Prop} {σ:St} {a b c d:B} {K:V→St→Prop} (g:Grp) (hl:LimG g) (h1:HGrp p σ.h a b g) (h2:HGrp p' σ.h c d g):CallX E 19 [.agg [a,b],.agg [c,d]] σ K=K (.c (.bool true)) σ :=
 callX_orc (by
  have h:orcS [.agg [a,b],.agg [c,d]] σ=some (.c (.bool true),σ):=by
   unfold orcS
   dsimp only
   rw [if_pos ⟨g,h1.keep (fun _ _=>rfl) fun _ _=>trivial,h2.keep (fun _ _=>rfl) fun _ _=>trivial,hl⟩]
  unfold orcA orcE orcP orcG
  simp only [Nat.reduceEqDiff,reduceIte,h])
theorem LenG.lim {g:Grp} (h:LenG 8 g):LimG g:=⟨h.n,by have:=h.d;omega,fun i hi=>⟨by have:=(h.e i hi).c;omega,by have:=(h.e i hi).a;omega,fun j hj=>by have:=(h.e i hi).t j hj;omega,fun j t hj ht=>by have:=(h.e i hi).p j t hj ht;omega⟩,h.l⟩
theorem HGrp.none (h:Tr Bk):HGrp (fun _=>True) h .nils .nils ⟨[],[]⟩:=⟨⟨fun _=>.nils,fun _=>.nils,.inl ⟨rfl,rfl⟩,fun i hi=>by simp at hi⟩,HDbts.none _ _⟩
theorem lim_none:LimG ⟨[],[]⟩:=⟨by decide,by decide,fun i hi=>by simp at hi,fun i hi=>by simp at hi⟩
set_option maxRecDepth 10000 in
theorem law_charge_x {σ:St} (hW:WF σ) (haw:AwakeOk 9) {nm ncash nl np nd nk x:Nat} (hnm:nm≤255) (hx:x≤65535) {cv lv pv dv kv:B} (M:Nat→Nat) (L Q D:Nat→Nat→Nat) (Z:Nat→Nat) (hcv:HL σ.h 1 cv ncash fun i=>[.int .u16 (.ofNat (M i))]) (hM : ∀ i,i<ncash→M i≤65535)
  (hlv:HL σ.h 4 lv nl fun i=>[.int .u16 (.ofNat (L i 0)),.int .u16 (.ofNat (L i 1)),.int .u16 (.ofNat (L i 2)),.int .u16 (.ofNat (L i 3))]) (hL : ∀ i j,i<nl→L i j≤65535) (hnl:nl≤9223372036854775806)
  (hpv:HL σ.h 3 pv np fun i=>[.int .u16 (.ofNat (Q i 0)),.int .u16 (.ofNat (Q i 1)),.int .u16 (.ofNat (Q i 2))]) (hQ : ∀ i j,i<np→Q i j≤65535) (hnp:np≤9223372036854775806)
  (hdv:HL σ.h 3 dv nd fun i=>[.int .u16 (.ofNat (D i 0)),.int .u16 (.ofNat (D i 1)),.int .u16 (.ofNat (D i 2))]) (hD : ∀ i j,i<nd→D i j≤65535) (hnd:nd≤9223372036854775806)
  (hkv:HL σ.h 1 kv nk fun i=>[.int .u16 (.ofNat (Z i))]) (hZ : ∀ i,i<nk→Z i≤65535) :
  CallX EN 4 [.c (.int .u8 (.ofNat nm)),.c cv,.c lv,.c pv,.c dv,.c kv,.c (.int .u16 (.ofNat x))] σ fun r σ'=>r = .c (.bool true):=by
 refine call_fn (O_l21_DefaultcostCharge _ _) F_l21_DefaultcostCharge ?_
 unfold a_l21_DefaultcostCharge
 have hAw:=fun (σ:St) (K:V→St→Prop)=>x_awake21 (E:=EN) (σ:=σ) (K:=K) haw
 simp (maxSteps:=9^9) (disch:=first|assumption|decide|omega) only [go_sem,z3]
 refine (group21_x hW hnm M L Q D hcv hM hlv hL hnl hpv hQ hnp hdv hD hnd (by omega)).mono ?_
 rintro _ σ2 ⟨ev,dv',g,rfl,hB⟩
 have hF:=hB.fr
 have hle:=hF.le
 have hek:=hB.hg.e.kn
 have hdk:=hB.hg.d.kn
 have hlenE:=hB.hg.e.len
 have hs:=hB.s
 have hs2:=SmallG.up hB.s (show 1000000≤134217728 by decide)
 have hl:=hB.l.up (show 8≤1000 by decide)
 have hlim:=hB.l
 simp (maxSteps:=9^9) (disch:=first|assumption|decide|omega) only [go_sem,z3,hek,hdk]
 refine CallX.st (Fr σ2) (by have hFr:=Fr.refl hF.wf;exact fr) fun hF3=>?_
 refine (costs_x hF3.wf g (hB.hg.fr hF.wf hF3) hl.n Z (hkv.fr hW (hF.trans hF3)) hZ).mono ?_
 rintro _ σ3 ⟨rv,rfl,hO,hf3⟩
 have hF03:=hF3.trans hf3
 have q0:σ3.h σ2.nxt=some ⟨[ev,dv'],none⟩:=hf3.get hF3.wf (hset_get _ _ _)
 have hrk:=hO.kn
 simp (maxSteps:=9^9) (disch:=first|assumption|decide|omega) only [go_sem,z3,ld_blk q0,hek,hdk,hlenE]
 refine (flags_x hf3.wf x hx g.e.length hl.n).mono ?_
 rintro _ σ4 ⟨⟨fb,rfl,hfb,hb1,hb2⟩,hf4⟩
 have hF04:=hF03.trans hf4
 have q04:=hf4.get hf3.wf q0
 have hg4:=hB.hg.fr hF.wf hF04
 have hK:HLp (fun _=>True) σ3.h 3 rv g.e.length fun j=>ratC (costQ Z nk j):=hO.hlp (fun _=>rfl) (by decide) (fun _ _=>rfl) fun _ _ _=>trivial
 have hK4:=hK.fr hf3.wf hf4
 have hI4:HLp (fun _=>True) σ4.h 1 (.sl fb 0 g.e.length (.ex g.e.length)) g.e.length fun j=>[.bool (flagB x j)]:=cel_hlp (e:=1) (G:=fun j=>[.bool (flagB x j)]) _ hfb rfl trivial (fun _=>rfl) (by decide) fun _ _=>rfl
 simp (maxSteps:=9^9) (disch:=first|assumption|decide|omega) only [go_sem,z3,ld_blk q04,hek,hdk,hrk]
 refine (dcharge_x hf4.wf g hg4 hs hs2 hl (costQ Z nk) (flagB x) hK4 hI4 fun j=>costQ_sm Z nk j).mono ?_
 rintro r σ5 ⟨hv5,hf5⟩
 have hF05:=hF04.trans hf5
 have q05:=hf5.get hf4.wf q04
 have hg5:=hg4.fr hf4.wf hf5
 have hK5:=hK4.fr hf4.wf hf5
 have hI5:=hI4.fr hf4.wf hf5
 have hq5:=hf5.wf.lt q05
 rcases hv5 with ⟨hc,rfl⟩|⟨hc,ov,dw,rfl,hR⟩
 ·have hcc:decide (setE g (costQ Z nk)=setE g (costQ Z nk))=true:=decide_eq_true rfl
  simp (maxSteps:=9^9) (disch:=first|assumption|decide|omega) only [go_sem,z3,ld_blk q05,hek,hdk,hrk]
  refine CallX.st (Fr σ5) (by have hFr:=Fr.refl hf5.wf;exact fr) fun hF6=>?_
  refine (rCharge_x hF6.wf g (hg5.fr hf5.wf hF6) hs hs2 hl (costQ Z nk) (flagB x) (hK5.fr hf5.wf hF6) (hI5.fr hf5.wf hF6) fun j=>costQ_sm Z nk j).mono ?_
  rintro r σ7 ⟨hv7,hf7⟩
  have q18:σ7.h σ5.nxt=some ⟨[.nils,.nils],none⟩:=hf7.get hF6.wf (hset_get _ _ _)
  have hq18:=hf7.wf.lt q18
  rcases hv7 with ⟨-,rfl⟩|⟨hc7,-⟩
  ·have hsg:=fun (σ:St) (K:V→St→Prop)=>x_SameGroup (E:=EN) (σ:=σ) (K:=K) ⟨[],[]⟩ lim_none (HGrp.none σ.h) (HGrp.none σ.h)
   simp (maxSteps:=9^9) (disch:=first|assumption|decide|omega) only [go_sem,z3,hAw,hcc,ld_blk q18,hsg]
  ·exact absurd hc7 hc
 ·obtain ⟨ko,kd⟩:=hR.kn
  simp (maxSteps:=9^9) (disch:=first|assumption|decide|omega) only [go_sem,z3,ld_blk q05,hek,hdk,hrk,ko,kd]
  refine CallX.st (Fr σ5) (by have hFr:=Fr.refl hf5.wf;exact fr) fun hF6=>?_
  refine (rCharge_x hF6.wf g (hg5.fr hf5.wf hF6) hs hs2 hl (costQ Z nk) (flagB x) (hK5.fr hf5.wf hF6) (hI5.fr hf5.wf hF6) fun j=>costQ_sm Z nk j).mono ?_
  rintro r σ7 ⟨hv7,hf7⟩
  have q18:σ7.h σ5.nxt=some ⟨[ov,dw],none⟩:=hf7.get hF6.wf (hset_get _ _ _)
  have hq18:=hf7.wf.lt q18
  have hF67:=hF6.trans hf7
  rcases hv7 with ⟨hc7,-⟩|⟨-,ov7,dw7,rfl,hR7⟩
  ·exact absurd hc hc7
  ·obtain ⟨ko7,kd7⟩:=hR7.kn
   have hG5:=hR.grp.fr hf5.wf hF67
   have hG7:=hR7.grp
   have hF8:Fr σ7 ⟨hset (hset σ7.h σ7.nxt ⟨[.nils,.nils],none⟩) σ7.nxt ⟨[ov7,dw7],none⟩,σ7.nxt+1⟩:=by
    have hFr:=Fr.refl hf7.wf
    exact fr
   have hsg:=fun (K:V→St→Prop)=>x_SameGroup (E:=EN) (K:=K) (cpG g (chM (estM g.e) (costQ Z nk) (flagB x) g.e.length)) (cpG_len hlim).lim (hG5.fr hf7.wf hF8) (hG7.fr hf7.wf hF8)
   simp (maxSteps:=9^9) (disch:=first|assumption|decide|omega) only [go_sem,z3,hAw,ld_blk q18,ko,kd,ko7,kd7,hsg]
end Go.Proofs.Xe
namespace Go.Proofs.Xe
open Go.Proofs
theorem c_l21_DefaultcostCharge:impF Tryz.prog 4 a_l21_DefaultcostCharge=true:=by kernel_rfl
theorem c_l21_group:impF Tryz.prog 10 a_l21_group=true:=by kernel_rfl
theorem c_l0_Costs:impF Tryz.prog 15 a_l0_Costs=true:=by kernel_rfl
theorem c_l0_Flags:impF Tryz.prog 16 a_l0_Flags=true:=by kernel_rfl
theorem c_defaultcost_Charge:impF Tryz.prog 17 a_defaultcost_Charge=true:=by kernel_rfl
theorem c_r21_Charge:impF Tryz.prog 18 a_r21_Charge=true:=by kernel_rfl
theorem c_l0_Group:impF Tryz.prog 20 a_l0_Group=true:=by kernel_rfl
theorem c_l0_Late:impF Tryz.prog 34 a_l0_Late=true:=by kernel_rfl
theorem c_defaultcost_checkSet:impF Tryz.prog 41 a_defaultcost_checkSet=true:=by kernel_rfl
theorem c_defaultcost_charge:impF Tryz.prog 42 a_defaultcost_charge=true:=by kernel_rfl
theorem c_r21_checkCosts:impF Tryz.prog 44 a_r21_checkCosts=true:=by kernel_rfl
theorem c_r21_charge:impF Tryz.prog 45 a_r21_charge=true:=by kernel_rfl
theorem c_l0_agree:impF Tryz.prog 48 a_l0_agree=true:=by kernel_rfl
theorem c_l0_owe:impF Tryz.prog 49 a_l0_owe=true:=by kernel_rfl
theorem c_defaultcost_negative:impF Tryz.prog 75 a_defaultcost_negative=true:=by kernel_rfl
theorem c_defaultcost_copyGroup:impF Tryz.prog 76 a_defaultcost_copyGroup=true:=by kernel_rfl
theorem c_r21_Clean:impF Tryz.prog 82 a_r21_Clean=true:=by kernel_rfl
theorem c_l0_free:impF Tryz.prog 85 a_l0_free=true:=by kernel_rfl
theorem c_l0_taken:impF Tryz.prog 86 a_l0_taken=true:=by kernel_rfl
theorem c_slices_ContainsFunc__api_Rat_api_Rat:impF Tryz.prog 125 a_slices_ContainsFunc__api_Rat_api_Rat=true:=by kernel_rfl
theorem c_defaultcost_negative_1:impF Tryz.prog 126 a_defaultcost_negative_1=true:=by kernel_rfl
theorem c_defaultcost_copyEstate:impF Tryz.prog 128 a_defaultcost_copyEstate=true:=by kernel_rfl
theorem c_defaultcost_clean:impF Tryz.prog 129 a_defaultcost_clean=true:=by kernel_rfl
theorem c_slices_Clone__api_Leg_api_Leg:impF Tryz.prog 130 a_slices_Clone__api_Leg_api_Leg=true:=by kernel_rfl
theorem c_r21_cleanAgreement:impF Tryz.prog 136 a_r21_cleanAgreement=true:=by kernel_rfl
theorem c_slices_IndexFunc__api_Rat_api_Rat:impF Tryz.prog 177 a_slices_IndexFunc__api_Rat_api_Rat=true:=by kernel_rfl
theorem fnT_ok:fnT.all (impF Tryz.prog)=true:=by
 simp only [fnT,FT.all,c_l21_DefaultcostCharge,c_l21_group,c_l0_Costs,c_l0_Flags,c_defaultcost_Charge,c_r21_Charge,c_l0_Group,c_l0_Late,c_defaultcost_checkSet,c_defaultcost_charge,c_r21_checkCosts,c_r21_charge,c_l0_agree,c_l0_owe,c_defaultcost_negative,c_defaultcost_copyGroup,c_r21_Clean,c_l0_free,c_l0_taken,c_slices_ContainsFunc__api_Rat_api_Rat,c_defaultcost_negative_1,c_defaultcost_copyEstate,c_defaultcost_clean,c_slices_Clone__api_Leg_api_Leg,c_r21_cleanAgreement,c_slices_IndexFunc__api_Rat_api_Rat,Bool.and_self]
theorem EN_ok:EnvOk Tryz.prog EN:=⟨fun _ _ hF=>FT.find_all fnT_ok hF,fun f args σ v σ' h=>orcA_ok f args σ v σ' h⟩
end Go.Proofs.Xe
namespace Go.Proofs.Xe
open Go.RowKit Go.Proofs.Ins
def fB {α:Sort _} (b:Bool) (f:Bool→α):α:=match b with|true=>f true|false=>f false
theorem fB_eq {α:Sort _} (b:Bool) (f:Bool→α):fB b f=f b:=by cases b <;> rfl
def dD (d:Nat):Nat:=bif Nat.beq d 0 then 1 else d
def sm (n:Nat):Bool:=Nat.ble (Nat.log2 n) 1990
def okT (n:Bool) (s d:Nat):Bool :=
 sm s && (sm d && (bif Nat.beq s 0 then !n && Nat.beq d 0 else Nat.beq d 0 || (!Nat.beq d 1 && Nat.beq (Nat.gcd s d) 1)))
theorem lt_pow_of_log {n k:Nat} (h:Nat.log2 n+1≤8*k):n<256 ^ k:=by
 have h2:n<2 ^ (Nat.log2 n+1):=Nat.lt_log2_self
 have h3:2 ^ (Nat.log2 n+1)≤2 ^ (8*k):=Nat.pow_le_pow_right (by omega) h
 have h4:(2:Nat) ^ (8*k)=256 ^ k:=Nat.pow_mul 2 8 k
 exact Nat.lt_of_lt_of_le h2 (Nat.le_trans h3 (Nat.le_of_eq h4))
theorem sm_lt {n:Nat} (h:sm n=true):n<256 ^ 250:=by
 have h1:Nat.log2 n≤1990:=Nat.le_of_ble_eq_true h
 exact lt_pow_of_log (by omega)
theorem sm_size {n:Nat} (h:sm n=true):(bn n).size≤250:=bn_size_le (sm_lt h)
theorem beq_iff' {a b:Nat} : Nat.beq a b=true↔a=b:=⟨Nat.eq_of_beq_eq_true,fun h=>by subst h;simp⟩
theorem dD_pos (d:Nat):0<dD d:=by
 unfold dD
 rw [bif_beq]
 split <;> omega
theorem okT_spec {n:Bool} {s d:Nat} (h:okT n s d=true):vld n (bn s) (bn d)∧(bn s).size≤250∧(bn d).size≤250∧(s=0→n=false):=by
 unfold okT at h
 simp only [Bool.and_eq_true] at h
 obtain ⟨h1,h2,h3⟩:=h
 rw [bif_beq] at h3
 refine ⟨⟨by rw [nv_bn],by rw [nv_bn],fun h0=>?_,?_⟩,sm_size h1,sm_size h2,fun h0=>?_⟩
 ·rw [nv_bn] at h0
  rw [if_pos h0] at h3
  simp only [Bool.and_eq_true,Bool.not_eq_true'] at h3
  exact ⟨h3.1,by rw [nv_bn];exact beq_iff'.mp h3.2⟩
 ·rw [nv_bn,nv_bn]
  split at h3
  ·simp only [Bool.and_eq_true] at h3
   exact .inl (beq_iff'.mp h3.2)
  ·simp only [Bool.or_eq_true,Bool.and_eq_true,Bool.not_eq_true'] at h3
   rcases h3 with h3|⟨h3,h4⟩
   ·exact .inl (beq_iff'.mp h3)
   ·exact .inr ⟨fun e=>(by rw [beq_iff'.mpr e] at h3;cases h3),beq_iff'.mp h4⟩
 ·rw [if_pos h0] at h3
  simp only [Bool.and_eq_true,Bool.not_eq_true'] at h3
  exact h3.1
theorem okT_f {n:Bool} {s d:Nat} (h:okT n s d=true):rn (rq n (bn s) (bn d))=n∧nm (rq n (bn s) (bn d))=s∧(rq n (bn s) (bn d)).den=dD d∧rs (rq n (bn s) (bn d))=bn s∧rd (rq n (bn s) (bn d))=bn d:=by
 obtain ⟨hv,-⟩:=okT_spec h
 obtain ⟨e1,e2⟩:=vld_num hv
 obtain ⟨f1,f2,f3⟩:=vld_fields hv
 refine ⟨f1,?_,?_,f2,f3⟩
 ·unfold nm;rw [e1,sgn_natAbs,nv_bn]
 ·rw [e2];unfold dn dD;rw [nv_bn,bif_beq]
theorem okT_rv {n:Bool} {s d:Nat} (h:okT n s d=true):rv (rq n (bn s) (bn d)) = .agg #[.bool n,.string (bn s),.string (bn d)]:=rv_vld (okT_spec h).1
def zeroV:V:=.agg [.bool false,.nat 0,.nat 0]
def enc (n:Bool) (x y:Nat):V :=
 bif Nat.beq x 0 then zeroV else fB n fun n=>fN (Nat.gcd x y) fun g=>fN (x/g) fun p=>fN (y/g) fun q=>bif Nat.beq q 1 then .agg [.bool n,.nat p,.nat 0] else .agg [.bool n,.nat p,.nat q]
theorem zero_RV (φ:Ph):RV φ zeroV (rv 0):=⟨_,rfl,rfl,rfl,rfl,trivial⟩
theorem enc_RV {n:Bool} {x y:Nat} (hy:0<y) (φ:Ph):RV φ (enc n x y) (rv (Ins.fr n x y)):=by
 unfold enc
 rw [bif_beq]
 by_cases hx:x=0
 ·rw [if_pos hx,hx,fr_zero];exact zero_RV φ
 ·rw [if_neg hx,fB_eq,fN_eq,fN_eq,fN_eq,bif_beq,rv_fr (by omega) hy]
  split
  ·exact ⟨_,rfl,rfl,rfl,rfl,trivial⟩
  ·exact ⟨_,rfl,rfl,rfl,rfl,trivial⟩
def addT (n1:Bool) (s1 d1:Nat) (n2:Bool) (s2 d2:Nat):V :=
 fN (s1*dD d2) fun X=>fN (s2*dD d1) fun Y=>fN (dD d1*dD d2) fun Z =>
  bif n1 == n2 then enc n1 (X+Y) Z else bif Nat.ble Y X then enc n1 (X - Y) Z else enc n2 (Y - X) Z
theorem addT_RV {n1 n2:Bool} {s1 d1 s2 d2:Nat} (h1:okT n1 s1 d1=true) (h2:okT n2 s2 d2=true) (φ:Ph):RV φ (addT n1 s1 d1 n2 s2 d2) (rv (rq n1 (bn s1) (bn d1)+rq n2 (bn s2) (bn d2))):=by
 obtain ⟨a1,a2,a3,-⟩:=okT_f h1
 obtain ⟨b1,b2,b3,-⟩:=okT_f h2
 have hZ:0<dD d1*dD d2:=Nat.mul_pos (dD_pos _) (dD_pos _)
 rw [fr_add,a1,a2,a3,b1,b2,b3]
 unfold addT
 rw [fN_eq,fN_eq,fN_eq]
 by_cases hn:n1=n2
 ·subst hn
  rw [sgn_add_same]
  simp only [beq_self_eq_true,cond_true]
  exact enc_RV hZ φ
 ·rw [show (n1 == n2)=false from by simpa using hn,cond_false]
  cases hb:Nat.ble (s2*dD d1) (s1*dD d2) with
  | true =>
   rw [sgn_add_diff hn (Nat.le_of_ble_eq_true hb),cond_true]
   exact enc_RV hZ φ
  | false =>
   have hlt : ¬ s2*dD d1≤s1*dD d2:=fun h=>by rw [Nat.ble_eq_true_of_le h] at hb;cases hb
   rw [Int.add_comm,sgn_add_diff (fun e=>hn e.symm) (by omega),cond_false]
   exact enc_RV hZ φ
def mulT (n1:Bool) (s1 d1:Nat) (n2:Bool) (s2 d2:Nat):V:=fN (s1*s2) fun X=>fN (dD d1*dD d2) fun Z=>enc (n1 != n2) X Z
theorem mulT_RV {n1 n2:Bool} {s1 d1 s2 d2:Nat} (h1:okT n1 s1 d1=true) (h2:okT n2 s2 d2=true) (φ:Ph):RV φ (mulT n1 s1 d1 n2 s2 d2) (rv (rq n1 (bn s1) (bn d1)*rq n2 (bn s2) (bn d2))):=by
 obtain ⟨a1,a2,a3,-⟩:=okT_f h1
 obtain ⟨b1,b2,b3,-⟩:=okT_f h2
 rw [fr_mul,a1,a2,a3,b1,b2,b3]
 unfold mulT
 rw [fN_eq,fN_eq]
 exact enc_RV (Nat.mul_pos (dD_pos _) (dD_pos _)) φ
def withB (x:V) (b:Bool):V:=.tcons x (.tcons (.c (.bool b)) .tnil)
theorem withB_RV {φ:Ph} {x:V} {q:Rat} {b:Bool} (h:RV φ x (rv q)):RV φ (withB x b) (rvB q b):=⟨rv q,[.bool b],rfl,h,.bool b,[],rfl,rfl,rfl⟩
def divT (n1:Bool) (s1 d1:Nat) (n2:Bool) (s2 d2:Nat):V :=
 bif Nat.beq s2 0 then withB zeroV false else fN (s1*dD d2) fun X=>fN (dD d1*s2) fun Z=>withB (enc (n1 != n2) X Z) true
theorem divT_RV {n1 n2:Bool} {s1 d1 s2 d2:Nat} (h1:okT n1 s1 d1=true) (h2:okT n2 s2 d2=true) (φ:Ph):RV φ (divT n1 s1 d1 n2 s2 d2) (rvB (divR (rq n1 (bn s1) (bn d1)) (rq n2 (bn s2) (bn d2))) (okR (rq n2 (bn s2) (bn d2)))):=by
 obtain ⟨a1,a2,a3,-⟩:=okT_f h1
 obtain ⟨b1,b2,b3,-⟩:=okT_f h2
 unfold divT divR okR
 rw [bif_beq]
 by_cases h0:s2=0
 ·have hq:rq n2 (bn s2) (bn d2)=0:=nm_zero.mp (by rw [b2];exact h0)
  rw [if_pos h0,hq,if_pos rfl]
  exact withB_RV (zero_RV φ)
 ·have hq : ¬ rq n2 (bn s2) (bn d2)=0:=fun e=>h0 (by rw [← b2];exact nm_zero.mpr e)
  rw [if_neg h0,if_neg hq,fr_div hq,a1,a2,a3,b1,b2,b3,fN_eq,fN_eq,show (!decide (rq n2 (bn s2) (bn d2)=0))=true by simp [hq]]
  exact withB_RV (enc_RV (Nat.mul_pos (dD_pos _) (by omega)) φ)
def cmpn (x y:Nat):Int:=bif Nat.blt x y then .negSucc 0 else bif Nat.beq x y then .ofNat 0 else .ofNat 1
def cmpT (n1:Bool) (s1 d1:Nat) (n2:Bool) (s2 d2:Nat):Int :=
 match n1,n2 with
 | true,false=>.negSucc 0
 | false,true=>.ofNat 1
 | false,false=>cmpn (s1*dD d2) (s2*dD d1)
 | true,true=>cmpn (s2*dD d1) (s1*dD d2)
theorem cmpn_lt {x y:Nat} (h:x<y):cmpn x y = -1:=by
 unfold cmpn
 rw [show Nat.blt x y=true from Nat.ble_eq_true_of_le h];rfl
theorem cmpn_ge {x y:Nat} (h : ¬ x<y):cmpn x y=if x=y then 0 else 1:=by
 unfold cmpn
 rw [show Nat.blt x y=false from by
  cases hb:Nat.blt x y with
  | true=>exact absurd (Nat.le_of_ble_eq_true hb) h
  | false=>rfl,cond_false,bif_beq]
 split <;> rfl
theorem cmpT_eq {n1 n2:Bool} {s1 d1 s2 d2:Nat} (h1:okT n1 s1 d1=true) (h2:okT n2 s2 d2=true):cmpR (rq n1 (bn s1) (bn d1)) (rq n2 (bn s2) (bn d2))=cmpT n1 s1 d1 n2 s2 d2:=by
 obtain ⟨a1,a2,a3,-⟩:=okT_f h1
 obtain ⟨b1,b2,b3,-⟩:=okT_f h2
 obtain ⟨va,-,-,za⟩:=okT_spec h1
 obtain ⟨vb,-,-,zb⟩:=okT_spec h2
 have na:=(vld_num va).1
 have nb:=(vld_num vb).1
 rw [nv_bn] at na nb
 generalize hp:rq n1 (bn s1) (bn d1)=p at *
 generalize hq:rq n2 (bn s2) (bn d2)=q at *
 have l1:=Rat.lt_iff p q
 have l2:=Rat.lt_iff q p
 rw [na,nb,a3,b3] at l1 l2
 have p1:=dD_pos d1
 have p2:=dD_pos d2
 have tri : ∀ c:Int,(p<q→c = -1)→(q<p→c=1)→(p=q→c=0)→cmpR p q=c:=fun c t1 t2 t3=>by
  by_cases h1:p<q
  ·rw [cmpR_lt h1,t1 h1]
  ·by_cases h2:q<p
   ·rw [cmpR_gt h2,t2 h2]
   ·have h3:p=q:=Rat.le_antisymm (Rat.not_lt.mp h2) (Rat.not_lt.mp h1)
    rw [t3 h3,h3,cmpR_eq]
 have eqc:p=q→s1*dD d2=s2*dD d1:=fun e=>by rw [← a2,← b2,← a3,← b3,e]
 have x1:((s1*dD d2:Nat):Int)=(s1:Int)*(dD d2:Int):=by simp
 have x2:((s2*dD d1:Nat):Int)=(s2:Int)*(dD d1:Int):=by simp
 cases n1 <;> cases n2
 ·simp only [sgn,Bool.false_eq_true,if_false] at l1 l2
  rw [← x1,← x2] at l1
  rw [← x1,← x2] at l2
  show cmpR p q=cmpn (s1*dD d2) (s2*dD d1)
  refine tri _ (fun h=>cmpn_lt (by have:=l1.mp h;omega)) (fun h=>?_) (fun h=>?_)
  ·have:=l2.mp h
   rw [cmpn_ge (by omega),if_neg (by omega)]
  ·have:=eqc h
   rw [cmpn_ge (by omega),if_pos this]
 ·have hs:s2≠0:=fun e=>by have:=zb e;cases this
  have hlt:q<p:=l2.mpr (by
   simp only [sgn,if_true,Bool.false_eq_true,if_false]
   have:0<(s2:Int)*(dD d1:Int):=Int.mul_pos (by omega) (by omega)
   have h5:0≤(s1:Int)*(dD d2:Int):=Int.mul_nonneg (by omega) (by omega)
   rw [Int.neg_mul]
   omega)
  rw [cmpR_gt hlt];rfl
 ·have hs:s1≠0:=fun e=>by have:=za e;cases this
  have hlt:p<q:=l1.mpr (by
   simp only [sgn,if_true,Bool.false_eq_true,if_false]
   have:0<(s1:Int)*(dD d2:Int):=Int.mul_pos (by omega) (by omega)
   have h5:0≤(s2:Int)*(dD d1:Int):=Int.mul_nonneg (by omega) (by omega)
   rw [Int.neg_mul]
   omega)
  rw [cmpR_lt hlt];rfl
 ·simp only [sgn,if_true,Int.neg_mul] at l1 l2
  rw [← x1,← x2] at l1
  rw [← x1,← x2] at l2
  show cmpR p q=cmpn (s2*dD d1) (s1*dD d2)
  refine tri _ (fun h=>cmpn_lt (by have:=l1.mp h;omega)) (fun h=>?_) (fun h=>?_)
  ·have:=l2.mp h
   rw [cmpn_ge (by omega),if_neg (by omega)]
  ·have:=eqc h
   rw [cmpn_ge (by omega),if_pos this.symm]
def signT (n:Bool) (s:Nat):Int:=bif Nat.beq s 0 then .ofNat 0 else bif n then .negSucc 0 else .ofNat 1
theorem signT_eq {n:Bool} {s d:Nat} (h:okT n s d=true):sg (rq n (bn s) (bn d))=signT n s:=by
 obtain ⟨a1,a2,-⟩:=okT_f h
 unfold signT
 rw [bif_beq]
 by_cases h0:s=0
 ·rw [if_pos h0,sg_zero (by rw [a2];exact h0)];rfl
 ·rw [if_neg h0]
  cases n with
  | true=>rw [sg_neg a1];rfl
  | false=>rw [sg_pos a1 (by rw [a2];exact h0)];rfl
def intT (i:Int):V:=match i with|.ofNat m=>enc false m 1|.negSucc m=>enc true (m+1) 1
theorem intT_RV (i:Int) (φ:Ph):RV φ (intT i) (rv (i:Rat)):=by
 rw [← fr_int i]
 cases i with
 | ofNat m=>exact enc_RV (n:=false) (x:=m) (y:=1) (Nat.le_refl 1) φ
 | negSucc m =>
  rw [show decide (Int.negSucc m<0)=true from decide_eq_true (Int.negSucc_lt_zero m)]
  exact enc_RV (n:=true) (x:=m+1) (y:=1) (Nat.le_refl 1) φ
def cRat1 (f:Bool→Nat→Nat→V):List V→Option V
 | [.agg [.bool n,x,y]]=>(match x.num,y.num with|some s,some d=>bif okT n s d then some (f n s d) else none|_,_=>none)
 | _=>none
def cRat2 (f:Bool→Nat→Nat→Bool→Nat→Nat→V):List V→Option V
 | [.agg [.bool n1,x1,y1],.agg [.bool n2,x2,y2]]=>(match x1.num,y1.num with
  | some s1,some d1=>(match x2.num,y2.num with|some s2,some d2=>bif okT n1 s1 d1 && okT n2 s2 d2 then some (f n1 s1 d1 n2 s2 d2) else none|_,_=>none)
  | _,_=>none)
 | _=>none
def cNat2 (f:Nat→Nat→V):List V→Option V
 | [.c x,.c y]=>(match x.num,y.num with|some a,some b=>bif sm a && sm b then some (f a b) else none|_,_=>none)
 | _=>none
def ratVk (n:Bool) (s d:Nat):V:=.agg [.bool n,.nat s,.nat d]
def iVk (i:Int):V:=match i with|.ofNat 0=>.c (.int .i64 (.ofNat 0))|.ofNat (n+1)=>.c (.int .i64 (.ofNat (n+1)))|.negSucc n=>.c (.int .i64 (.negSucc n))
def cInt:List V→Option V
 | [.c (.int .i64 i)]=>bif inR .i64 i then some (intT i) else none
 | _=>none
def cMake:List V→Option V
 | [.c (.bool n),.c x,.c y]=>(match x.num,y.num with|some a,some b=>bif sm a && sm b then some (bif Nat.beq b 0 then withB zeroV false else withB (enc n a b) true) else none|_,_=>none)
 | _=>none
def cFrom:List V→Option V
 | [.c (.int .u64 (.ofNat u))]=>bif Nat.blt u 18446744073709551616 then some (.c (.nat u)) else none
 | _=>none
def subN (a b:Nat):V:=bif Nat.blt a b then .tcons (.c (.nat 0)) (.tcons (.c (.bool false)) .tnil) else fN (a - b) fun m=>.tcons (.c (.nat m)) (.tcons (.c (.bool true)) .tnil)
def cDivN:List V→Option V
 | [.c x,.c y]=>(match x.num,y.num with|some a,some b=>bif sm a && (sm b && !Nat.beq b 0) then some (fN (a/b) fun q=>fN (a%b) fun r=>.tcons (.c (.nat q)) (.tcons (.c (.nat r)) (.tcons (.c (.bool true)) .tnil))) else none|_,_=>none)
 | _=>none
def natV (n:Nat):V:=fN n fun n=>.c (.nat n)
def ctr (f:Nat) (args:List V):Option V :=
 if f=93 then cRat2 addT args
 else if f=36 then cRat2 (fun a b c d e f=>iVk (cmpT a b c d e f)) args
 else if f=250 then cRat2 mulT args
 else if f=248 then cRat2 divT args
 else if f=127 then cRat1 (fun n s _=>iVk (signT n s)) args
 else if f=152 then cRat2 (fun a b c d e f=>bif decide (cmpT a b c d e f≤0) then ratVk a b c else ratVk d e f) args
 else if f=77 then cRat2 (fun a b c d e f=>bif decide (0≤cmpT a b c d e f) then ratVk a b c else ratVk d e f) args
 else if f=67 then cRat1 ratVk args
 else if f=131 then cRat2 addT args
 else if f=116 then cRat1 (fun _ _ _=>.c (.bool true)) args
 else if f=198 then cInt args
 else if f=286 then cMake args
 else if f=275 then cFrom args
 else if f=179 then cNat2 (fun a b=>natV (a+b)) args
 else if f=180 then cNat2 subN args
 else if f=70 then cNat2 (fun a b=>natV (a*b)) args
 else if f=172 then cNat2 (fun a b=>natV (Nat.gcd a b)) args
 else if f=215 then cDivN args
 else if f=31 then cInt args
 else none
def orcC (f:Nat) (args:List V) (σ:St):Option (V×St):=match ctr f args with|some v=>some (v,σ)|none=>none
def isT:Option (V×St)→Bool
 | some (.c (.bool true),_)=>true
 | _=>false
variable {φ:Ph} {args:List V} {v:V} {cargs:Array Value} {P:Program}
theorem Ct.of {P:Program} {f:Nat} {v:V} {cargs:Array Value} {w:World} {cv:Value} (h:Calls P f cargs w fun e w'=>e = .returned cv∧Below w.heap.size w w') (hv : ∀ φ',RV φ' v cv):Ct P f v cargs w :=
 Calls.mono h fun _ _ he=>⟨cv,he.1,he.2,hv⟩
theorem rat_num {n:Bool} {x y:B} {s d:Nat} {cv:Value} (hx:x.num=some s) (hy:y.num=some d) (h:RV φ (.agg [.bool n,x,y]) cv):cv = .agg #[.bool n,.string (bn s),.string (bn d)]:=by
 obtain ⟨r,e,hr⟩:=h
 obtain ⟨l⟩:=r
 match l,hr with
 | [a,b,c],⟨h1,h2,h3,_⟩ =>
  have h1:a = .bool n:=h1
  rw [e,h1,num_spec hx h2,num_spec hy h3]
theorem ratVk_RV {n:Bool} {s d:Nat} (h:okT n s d=true) (φ:Ph):RV φ (ratVk n s d) (rv (rq n (bn s) (bn d))):=by
 rw [okT_rv h]
 exact ⟨_,rfl,rfl,rfl,rfl,trivial⟩
theorem iVk_RV (i:Int) (φ:Ph):RV φ (iVk i) (.int .i64 i):=by
 unfold iVk
 split <;> rfl
theorem cRat1_ok {f:Nat} {g:Bool→Nat→Nat→V} {R:Rat→Value} (hc : ∀ n s d w,(bn s).size≤250→(bn d).size≤250→okT n s d=true→Calls P f #[.agg #[.bool n,.string (bn s),.string (bn d)]] w fun e w'=>e = .returned (R (rq n (bn s) (bn d)))∧Below w.heap.size w w')
  (hg : ∀ n s d,okT n s d=true→∀ φ,RV φ (g n s d) (R (rq n (bn s) (bn d)))) (h:cRat1 g args=some v) (ha:RVs φ args cargs.toList) (w:World):Ct P f v cargs w:=by
 unfold cRat1 at h
 split at h
 ·next n x y =>
  split at h
  rotate_left
  ·cases h
  next s d hx hy =>
  cases hb:okT n s d with
  | false=>rw [hb] at h;cases h
  | true =>
   rw [hb] at h
   cases h
   obtain ⟨u,rfl,hu⟩:=one_arg ha
   rw [rat_num hx hy hu]
   obtain ⟨-,h1,h2,-⟩:=okT_spec hb
   exact .of (hc n s d w h1 h2 hb) (hg n s d hb)
 ·cases h
theorem cRat2_ok {f:Nat} {g:Bool→Nat→Nat→Bool→Nat→Nat→V} {R:Rat→Rat→Value}
  (hc : ∀ n1 s1 d1 n2 s2 d2 w,(bn s1).size≤250→(bn d1).size≤250→(bn s2).size≤250→(bn d2).size≤250→okT n1 s1 d1=true→okT n2 s2 d2=true→Calls P f #[.agg #[.bool n1,.string (bn s1),.string (bn d1)],.agg #[.bool n2,.string (bn s2),.string (bn d2)]] w fun e w' =>
   e = .returned (R (rq n1 (bn s1) (bn d1)) (rq n2 (bn s2) (bn d2)))∧Below w.heap.size w w')
  (hg : ∀ n1 s1 d1 n2 s2 d2,okT n1 s1 d1=true→okT n2 s2 d2=true→∀ φ,RV φ (g n1 s1 d1 n2 s2 d2) (R (rq n1 (bn s1) (bn d1)) (rq n2 (bn s2) (bn d2)))) (h:cRat2 g args=some v) (ha:RVs φ args cargs.toList) (w:World):Ct P f v cargs w:=by
 unfold cRat2 at h
 split at h
 ·next n1 x1 y1 n2 x2 y2 =>
  split at h
  rotate_left
  ·cases h
  next s1 d1 hx1 hy1 =>
  split at h
  rotate_left
  ·cases h
  next s2 d2 hx2 hy2 =>
  cases hb:(okT n1 s1 d1 && okT n2 s2 d2) with
  | false=>rw [hb] at h;cases h
  | true =>
   rw [hb] at h
   cases h
   rw [Bool.and_eq_true] at hb
   obtain ⟨u,v,rfl,hu,hv⟩:=two_args ha
   rw [rat_num hx1 hy1 hu,rat_num hx2 hy2 hv]
   obtain ⟨-,h1,h2,-⟩:=okT_spec hb.1
   obtain ⟨-,h3,h4,-⟩:=okT_spec hb.2
   exact .of (hc n1 s1 d1 n2 s2 d2 w h1 h2 h3 h4 hb.1 hb.2) (hg n1 s1 d1 n2 s2 d2 hb.1 hb.2)
 ·cases h
theorem cNat2_ok {f:Nat} {g:Nat→Nat→V} {R:Nat→Nat→Value} (hc : ∀ a b w,(bn a).size≤250→(bn b).size≤250→Calls P f #[.string (bn a),.string (bn b)] w fun e w'=>e = .returned (R a b)∧Below w.heap.size w w')
  (hg : ∀ a b φ,RV φ (g a b) (R a b)) (h:cNat2 g args=some v) (ha:RVs φ args cargs.toList) (w:World):Ct P f v cargs w:=by
 unfold cNat2 at h
 split at h
 ·next x y =>
  split at h
  rotate_left
  ·cases h
  next a b hx hy =>
  cases hb:(sm a && sm b) with
  | false=>rw [hb] at h;cases h
  | true =>
   rw [hb] at h
   cases h
   rw [Bool.and_eq_true] at hb
   obtain ⟨u,v,rfl,hu,hv⟩:=two_args ha
   have hu:u = .string (bn a):=num_spec hx hu
   have hv:v = .string (bn b):=num_spec hy hv
   rw [hu,hv]
   exact .of (hc a b w (sm_size hb.1) (sm_size hb.2)) (hg a b)
 ·cases h
theorem natV_RV (n:Nat) (φ:Ph):RV φ (natV n) (.string (bn n)):=by
 unfold natV
 rw [fN_eq]
 rfl
theorem subN_RV (a b:Nat) (φ:Ph):RV φ (subN a b) (subV a b):=by
 unfold subN
 cases h:Nat.blt a b with
 | true =>
  rw [subV_no (Nat.le_of_ble_eq_true h)]
  exact ⟨_,[.bool false],rfl,rfl,.bool false,[],rfl,rfl,rfl⟩
 | false =>
  rw [subV_yes (by
   refine Nat.le_of_not_lt fun e=>?_
   rw [show Nat.blt a b=true from Nat.ble_eq_true_of_le e] at h
   cases h),cond_false,fN_eq]
  exact ⟨_,[.bool true],rfl,rfl,.bool true,[],rfl,rfl,rfl⟩
theorem ite_some {c:Prop} [Decidable c] {x y:Option V} {v:V} (h:(if c then x else y)=some v):(c∧x=some v)∨(¬ c∧y=some v):=by
 by_cases hc:c
 ·rw [if_pos hc] at h;exact .inl ⟨hc,h⟩
 ·rw [if_neg hc] at h;exact .inr ⟨hc,h⟩
theorem okT_sm {n:Bool} {s d:Nat} (h:okT n s d=true):Sm 250 (rq n (bn s) (bn d)):=by
 obtain ⟨-,f2,f3,-⟩:=okT_f h
 unfold okT at h
 simp only [Bool.and_eq_true] at h
 refine ⟨by rw [f2];exact sm_lt h.1,?_⟩
 rw [f3]
 unfold dD
 rw [bif_beq]
 split
 ·exact Nat.one_lt_pow (by omega) (by omega)
 ·exact sm_lt h.2.1
set_option maxRecDepth 100000 in
theorem ctr_ok (f:Nat) (args:List V) (v:V) (h:ctr f args=some v):okF Tryz.prog f∧∀ (φ:Ph) (cargs:Array Value) (w:World),RVs φ args cargs.toList→Ct Tryz.prog f v cargs w:=by
 unfold ctr at h
 replace h:=ite_some h
 rcases h with ⟨e,h⟩|⟨-,h⟩
 ·subst e
  exact ⟨okF_of (by kernel_rfl),fun φ cargs w ha=>cRat2_ok (R:=fun p q=>rv (p+q)) (fun n1 s1 d1 n2 s2 d2 w h1 h2 h3 h4 _ _=>add_rat n1 (bn s1) (bn d1) n2 (bn s2) (bn d2) w (by omega) (by omega)) (fun n1 s1 d1 n2 s2 d2 k1 k2 φ=>addT_RV k1 k2 φ) h ha w⟩
 replace h:=ite_some h
 rcases h with ⟨e,h⟩|⟨-,h⟩
 ·subst e
  exact ⟨okF_of (by kernel_rfl),fun φ cargs w ha=>cRat2_ok (R:=fun p q=>.int .i64 (cmpR p q)) (fun n1 s1 d1 n2 s2 d2 w h1 h2 h3 h4 _ _=>compare_rat n1 (bn s1) (bn d1) n2 (bn s2) (bn d2) w (by omega) (by omega)) (fun n1 s1 d1 n2 s2 d2 k1 k2 φ=>by rw [cmpT_eq k1 k2];exact iVk_RV _ φ) h ha w⟩
 replace h:=ite_some h
 rcases h with ⟨e,h⟩|⟨-,h⟩
 ·subst e
  exact ⟨okF_of (by kernel_rfl),fun φ cargs w ha=>cRat2_ok (R:=fun p q=>rv (p*q)) (fun n1 s1 d1 n2 s2 d2 w h1 h2 h3 h4 _ _=>multiply_rat n1 (bn s1) (bn d1) n2 (bn s2) (bn d2) w (by omega) (by omega)) (fun n1 s1 d1 n2 s2 d2 k1 k2 φ=>mulT_RV k1 k2 φ) h ha w⟩
 replace h:=ite_some h
 rcases h with ⟨e,h⟩|⟨-,h⟩
 ·subst e
  exact ⟨okF_of (by kernel_rfl),fun φ cargs w ha=>cRat2_ok (R:=fun p q=>rvB (divR p q) (okR q)) (fun n1 s1 d1 n2 s2 d2 w h1 h2 h3 h4 _ _=>divide_rat n1 (bn s1) (bn d1) n2 (bn s2) (bn d2) w (by omega) (by omega)) (fun n1 s1 d1 n2 s2 d2 k1 k2 φ=>divT_RV k1 k2 φ) h ha w⟩
 replace h:=ite_some h
 rcases h with ⟨e,h⟩|⟨-,h⟩
 ·subst e
  exact ⟨okF_of (by kernel_rfl),fun φ cargs w ha=>cRat1_ok (R:=fun p=>.int .i64 (sg p)) (fun n s d w h1 h2 _=>sign_rat n (bn s) (bn d) w (by omega) (by omega)) (fun n s d k φ=>by rw [signT_eq k];exact iVk_RV _ φ) h ha w⟩
 replace h:=ite_some h
 rcases h with ⟨e,h⟩|⟨-,h⟩
 ·subst e
  refine ⟨okF_of (by kernel_rfl),fun φ cargs w ha=>cRat2_ok (R:=fun p q=>rv (minR p q)) (fun n1 s1 d1 n2 s2 d2 w h1 h2 h3 h4 _ _=>min_rat n1 (bn s1) (bn d1) n2 (bn s2) (bn d2) w (by omega) (by omega)) (fun n1 s1 d1 n2 s2 d2 k1 k2 φ=>?_) h ha w⟩
  unfold minR
  rw [cmpT_eq k1 k2]
  by_cases hc:cmpT n1 s1 d1 n2 s2 d2≤0
  ·rw [decide_eq_true hc,if_pos hc];exact ratVk_RV k1 φ
  ·rw [decide_eq_false hc,if_neg hc];exact ratVk_RV k2 φ
 replace h:=ite_some h
 rcases h with ⟨e,h⟩|⟨-,h⟩
 ·subst e
  refine ⟨okF_of (by kernel_rfl),fun φ cargs w ha=>cRat2_ok (R:=fun p q=>rv (maxR p q)) (fun n1 s1 d1 n2 s2 d2 w h1 h2 h3 h4 _ _=>max_rat n1 (bn s1) (bn d1) n2 (bn s2) (bn d2) w (by omega) (by omega)) (fun n1 s1 d1 n2 s2 d2 k1 k2 φ=>?_) h ha w⟩
  unfold maxR
  rw [cmpT_eq k1 k2]
  by_cases hc:0≤cmpT n1 s1 d1 n2 s2 d2
  ·rw [decide_eq_true hc,if_pos hc];exact ratVk_RV k1 φ
  ·rw [decide_eq_false hc,if_neg hc];exact ratVk_RV k2 φ
 replace h:=ite_some h
 rcases h with ⟨e,h⟩|⟨-,h⟩
 ·subst e
  exact ⟨okF_of (by kernel_rfl),fun φ cargs w ha=>cRat1_ok (R:=rv) (fun n s d w h1 h2 _=>clean_any n (bn s) (bn d) w (by omega) (by omega)) (fun n s d k φ=>ratVk_RV k φ) h ha w⟩
 replace h:=ite_some h
 rcases h with ⟨e,h⟩|⟨-,h⟩
 ·subst e
  refine ⟨okF_of (by kernel_rfl),fun φ cargs w ha=>cRat2_ok (R:=fun p q=>rv (p+q)) (fun n1 s1 d1 n2 s2 d2 w h1 h2 h3 h4 k1 k2=>?_) (fun n1 s1 d1 n2 s2 d2 k1 k2 φ=>addT_RV k1 k2 φ) h ha w⟩
  have:=plusR_any (rq n1 (bn s1) (bn d1)) (rq n2 (bn s2) (bn d2)) 250 250 w (okT_sm k1) (okT_sm k2) (by omega)
  obtain ⟨a1,-,-,a2,a3⟩:=okT_f k1
  obtain ⟨b1,-,-,b2,b3⟩:=okT_f k2
  rw [a1,a2,a3,b1,b2,b3] at this
  exact this
 replace h:=ite_some h
 rcases h with ⟨e,h⟩|⟨-,h⟩
 ·subst e
  refine ⟨okF_of (by kernel_rfl),fun φ cargs w ha=>cRat1_ok (g:=fun _ _ _=>.c (.bool true)) (R:=fun _=>.bool true) (fun n s d w h1 h2 k=>?_) (fun n s d k φ=>rfl) h ha w⟩
  have:=valid_any n (bn s) (bn d) w (by omega) (by omega)
  rwa [vldB_true (okT_spec k).1] at this
 replace h:=ite_some h
 rcases h with ⟨e,h⟩|⟨-,h⟩
 ·subst e
  refine ⟨okF_of (by kernel_rfl),fun φ cargs w ha=>?_⟩
  unfold cInt at h
  split at h
  ·next i =>
   cases hb:inR .i64 i with
   | false=>rw [hb] at h;cases h
   | true =>
    rw [hb] at h
    cases h
    obtain ⟨u,rfl,hu⟩:=one_arg ha
    have hu:u = .int .i64 i:=hu
    rw [hu]
    have hr : -9223372036854775808≤i∧i≤9223372036854775807:=by
     cases i with
     | ofNat m=>have:=Nat.le_of_ble_eq_true hb;simp only [Int.ofNat_eq_natCast];omega
     | negSucc m=>have:=Nat.le_of_ble_eq_true hb;omega
    exact .of (int_any i w hr.1 hr.2) (intT_RV i)
  ·cases h
 replace h:=ite_some h
 rcases h with ⟨e,h⟩|⟨-,h⟩
 ·subst e
  refine ⟨okF_of (by kernel_rfl),fun φ cargs w ha=>?_⟩
  unfold cMake at h
  split at h
  ·next n x0 y0 =>
   split at h
   rotate_left
   ·cases h
   next a b hx0 hy0 =>
   cases hb:(sm a && sm b) with
   | false=>rw [hb] at h;cases h
   | true =>
    rw [hb] at h
    rw [Bool.and_eq_true] at hb
    simp only [cond_true,Option.some.injEq] at h
    obtain ⟨u,x,t,rfl,hu,hx,ht⟩:=three_args ha
    have hu:u = .bool n:=hu
    have hx:x = .string (bn a):=num_spec hx0 hx
    have ht:t = .string (bn b):=num_spec hy0 ht
    rw [hu,hx,ht]
    have s1:=sm_size hb.1
    have s2:=sm_size hb.2
    rw [bif_beq] at h
    by_cases h0:b=0
    ·rw [if_pos h0] at h
     rw [← h]
     exact .of (make_no n _ _ w (by omega) (by rw [nv_bn];exact h0)) (fun φ=>withB_RV (zero_RV φ))
    ·rw [if_neg h0] at h
     rw [← h]
     have:=make_yes n (bn a) (bn b) w (by omega) (by omega) (by rw [nv_bn];omega)
     rw [nv_bn,nv_bn] at this
     exact .of this (fun φ=>withB_RV (enc_RV (by omega) φ))
  ·cases h
 replace h:=ite_some h
 rcases h with ⟨e,h⟩|⟨-,h⟩
 ·subst e
  refine ⟨okF_of (by kernel_rfl),fun φ cargs w ha=>?_⟩
  unfold cFrom at h
  split at h
  ·next u =>
   cases hb:Nat.blt u 18446744073709551616 with
   | false=>rw [hb] at h;cases h
   | true =>
    rw [hb] at h
    cases h
    obtain ⟨x,rfl,hx⟩:=one_arg ha
    have hx:x = .int .u64 (u:Int):=hx
    rw [hx]
    exact .of (fromUint_any u w (Nat.le_of_ble_eq_true hb)) (fun φ=>rfl)
  ·cases h
 replace h:=ite_some h
 rcases h with ⟨e,h⟩|⟨-,h⟩
 ·subst e
  refine ⟨okF_of (by kernel_rfl),fun φ cargs w ha=>cNat2_ok (R:=fun a b=>.string (bn (a+b))) (fun a b w h1 h2=>?_) (fun a b φ=>natV_RV _ φ) h ha w⟩
  have:=add_any (bn a) (bn b) w (by omega) (by omega)
  rwa [nv_bn,nv_bn] at this
 replace h:=ite_some h
 rcases h with ⟨e,h⟩|⟨-,h⟩
 ·subst e
  refine ⟨okF_of (by kernel_rfl),fun φ cargs w ha=>cNat2_ok (R:=subV) (fun a b w h1 h2=>?_) (fun a b φ=>subN_RV a b φ) h ha w⟩
  have:=subtractS_any (bn a) (bn b) w (by omega) (by omega)
  rwa [nv_bn,nv_bn] at this
 replace h:=ite_some h
 rcases h with ⟨e,h⟩|⟨-,h⟩
 ·subst e
  refine ⟨okF_of (by kernel_rfl),fun φ cargs w ha=>cNat2_ok (R:=fun a b=>.string (bn (a*b))) (fun a b w h1 h2=>?_) (fun a b φ=>natV_RV _ φ) h ha w⟩
  have:=multiply_any (bn a) (bn b) w (by omega) (by omega)
  rwa [nv_bn,nv_bn] at this
 replace h:=ite_some h
 rcases h with ⟨e,h⟩|⟨-,h⟩
 ·subst e
  refine ⟨okF_of (by kernel_rfl),fun φ cargs w ha=>cNat2_ok (R:=fun a b=>.string (bn (Nat.gcd a b))) (fun a b w h1 h2=>?_) (fun a b φ=>natV_RV _ φ) h ha w⟩
  have:=gcd_any (bn a) (bn b) w (by omega) (by omega)
  rwa [nv_bn,nv_bn] at this
 replace h:=ite_some h
 rcases h with ⟨e,h⟩|⟨-,h⟩
 ·subst e
  refine ⟨okF_of (by kernel_rfl),fun φ cargs w ha=>?_⟩
  unfold cDivN at h
  split at h
  ·next x0 y0 =>
   split at h
   rotate_left
   ·cases h
   next a b hx0 hy0 =>
   cases hb:(sm a && (sm b && !Nat.beq b 0)) with
   | false=>rw [hb] at h;cases h
   | true =>
    rw [hb] at h
    cases h
    simp only [Bool.and_eq_true,Bool.not_eq_true'] at hb
    obtain ⟨u,x,rfl,hu,hx⟩:=two_args ha
    have hu:u = .string (bn a):=num_spec hx0 hu
    have hx:x = .string (bn b):=num_spec hy0 hx
    rw [hu,hx]
    have s1:=sm_size hb.1
    have s2:=sm_size hb.2.1
    have h0:0<b:=Nat.pos_of_ne_zero fun e=>by rw [e] at hb;exact absurd hb.2.2 (by decide)
    have:=divideS_any (bn a) (bn b) w (by omega) (by omega) (by rw [nv_bn];exact h0)
    rw [nv_bn,nv_bn] at this
    refine .of this fun φ=>?_
    simp only [fN_eq]
    exact ⟨_,[.string (bn (a%b)),.bool true],rfl,rfl,_,[.bool true],rfl,rfl,.bool true,[],rfl,rfl,rfl⟩
  ·cases h
 replace h:=ite_some h
 rcases h with ⟨e,h⟩|⟨-,h⟩
 ·subst e
  refine ⟨okF_of (by kernel_rfl),fun φ cargs w ha=>?_⟩
  unfold cInt at h
  split at h
  ·next i =>
   cases hb:inR .i64 i with
   | false=>rw [hb] at h;cases h
   | true =>
    rw [hb] at h
    cases h
    obtain ⟨u,rfl,hu⟩:=one_arg ha
    have hu:u = .int .i64 i:=hu
    rw [hu]
    have hr : -9223372036854775808≤i∧i≤9223372036854775807:=by
     cases i with
     | ofNat m=>have:=Nat.le_of_ble_eq_true hb;simp only [Int.ofNat_eq_natCast];omega
     | negSucc m=>have:=Nat.le_of_ble_eq_true hb;omega
    exact .of (whole_any i w hr.1 hr.2) (intT_RV i)
  ·cases h
 cases h
theorem orcC_ok (f:Nat) (args:List V) (σ:St) (v:V) (σ' : St) (h:orcC f args σ=some (v,σ')):okF Tryz.prog f∧∀ (N:Nat) (w0:World) (φ:Ph) (w:World) (cargs:Array Value),Rel N w0 φ σ w→RVs φ args cargs.toList →
  Calls Tryz.prog f cargs w fun e w'=>∃ cv,e = .returned cv∧∃ φ',Ext σ.nxt φ φ'∧Rel N w0 φ' σ' w'∧RV φ' v cv∧σ.nxt≤σ'.nxt:=by
 unfold orcC at h
 split at h
 ·next u hu =>
  cases h
  obtain ⟨h1,h2⟩:=ctr_ok f args _ hu
  refine ⟨h1,fun N w0 φ w cargs hR ha=>(h2 φ cargs w ha).mono fun e w' he=>?_⟩
  obtain ⟨cv,rfl,hb,hv⟩:=he
  exact ⟨cv,rfl,φ,Ext.refl _ _,hR.below hb,hv φ,Nat.le_refl _⟩
 ·cases h
theorem isT_spec {o:Option (V×St)} (h:isT o=true) : ∃ σ,o=some (.c (.bool true),σ):=by
 unfold isT at h
 split at h
 ·next σ=>exact ⟨σ,rfl⟩
 ·cases h
end Go.Proofs.Xe
