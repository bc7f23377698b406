/- insolvencyref21.cleanAgreement, in the executor's words. -/
import Derived.Test.YtiaefgffeekfkaaGreatDoorY38
set_option linter.unusedSimpArgs false
set_option linter.unusedVariables false
set_option maxHeartbeats 8000000
namespace Go.Proofs.Xe
open Go.RowKit Go.Proofs.Ins
def negB (K:Nat→Rat):Nat→Bool
 | 0=>false
 | n+1=>negB K n || decide (K n<0)
def negE (K:Nat→Rat) (n:Nat):Int:=if negB K n then .ofNat 7 else .ofNat 0
theorem negB_mono {K:Nat→Rat} {j:Nat} (h:negB K j=true) : ∀ n,j≤n→negB K n=true
 | 0,h0=>by
  obtain rfl:j=0:=by omega
  exact h
 | n+1,hj=>by
  by_cases e:j=n+1
  ·rw [← e];exact h
  ·show (negB K n || decide (K n<0))=true
   rw [negB_mono h n (by omega)];rfl
theorem sg_lt (q:Rat):decide (sg q<Int.ofNat 0)=decide (q<0):=by
 by_cases h:q<0
 ·rw [decide_eq_true h]
  have h0:q≠0:=by grind
  unfold sg
  rw [if_neg h0,if_pos h];rfl
 ·rw [decide_eq_false h]
  unfold sg
  rw [if_neg h]
  split <;> rfl
set_option maxRecDepth 10000 in
theorem neg1_x {σ:St} (hW:WF σ) (q:Rat) (hq:Sz q):CallX EN 126 [.agg [.bool (rn q),.str (rs q),.str (rd q)]] σ fun r σ'=>r = .c (.bool (decide (q<0)))∧Fr σ σ':=by
 refine call_fn (O_defaultcost_negative_1 _ _) F_defaultcost_negative_1 ?_
 unfold a_defaultcost_negative_1
 have h2:=hq.two
 simp (maxSteps:=9^9) (disch:=first|assumption|decide|omega) only [go_sem,z3,hq,h2,sg_lt]
 exact fr
set_option maxRecDepth 10000 in
theorem idxneg_x {σ:St} (hW:WF σ) {p:Nat→Prop} {v:B} {n:Nat} (K:Nat→Rat) (hC:HLp p σ.h 3 v n fun j=>ratC (K j)) (hK : ∀ j,Sz (K j)) (hn:n≤1000) :
  CallX EN 177 [.c v,.fn 126 []] σ fun r σ'=>(∃ i,r = .c (.int .i64 i)∧decide (Int.ofNat 0≤i)=negB K n)∧Fr σ σ':=by
 refine call_fn (O_slices_IndexFunc__api_Rat_api_Rat _ _) F_slices_IndexFunc__api_Rat_api_Rat ?_
 unfold a_slices_IndexFunc__api_Rat_api_Rat
 have hlen:=hC.len
 have hvk:=hC.kn
 simp (maxSteps:=9^9) (disch:=first|assumption|decide|omega) only [go_sem,z3,hlen]
 refine run_loop (fun q tm σ'=>∃ j,q=n - j∧j≤n∧Tr.getV tm 0 = .c v∧Tr.getV tm 1 = .fn 126 []∧Tr.getV tm 7 = .c (.int .i64 (.ofNat n))∧Tr.getV tm 8 = .c (.int .i64 (.ofNat j))∧negB K j=false∧Fr σ σ') n ?_ ?_
 ·refine ⟨0,by omega,by omega,?_⟩
  simp (maxSteps:=9^9) (disch:=first|assumption|decide|omega) only [go_sem,z3,true_and]
  exact ⟨rfl,Fr.refl hW⟩
 ·rintro q tm σ' ⟨j,rfl,hj,t0,t1,t7,t8,hb,hf⟩
  simp (maxSteps:=9^9) (disch:=first|assumption|decide|omega) only [go_sem,z3,t0,t1,t7,t8,lt_ofNat]
  refine ifV_dec (fun hlt=>?_) (fun hlt=>?_)
  ·obtain ⟨b,o,c,rfl,-,hld⟩:=hC.pos (by omega)
   have hld:=hf.ld hW (hld j hlt)
   unfold ratC at hld
   simp (maxSteps:=9^9) (disch:=first|assumption|decide|omega) only [go_sem,z3,t0,t1,t7,t8,hld]
   refine (neg1_x hf.wf (K j) (hK j)).mono ?_
   rintro _ σ4 ⟨rfl,hf4⟩
   have hf04:=hf.trans hf4
   have hn1:negB K (j+1)=(negB K j || decide (K j<0)):=rfl
   simp (maxSteps:=9^9) (disch:=first|assumption|decide|omega) only [go_sem,z3,t0,t1,t7,t8]
   refine ifV_dec (fun hq=>?_) (fun hq=>?_)
   ·simp (maxSteps:=9^9) (disch:=first|assumption|decide|omega) only [go_sem,z3,t0,t1,t7,t8]
    rw [hb,decide_eq_true hq] at hn1
    exact ⟨⟨_,rfl,by rw [negB_mono hn1 n (by omega)];exact decide_eq_true (by simp)⟩,hf04⟩
   ·simp (maxSteps:=9^9) (disch:=first|assumption|decide|omega) only [go_sem,z3,t0,t1,t7,t8]
    rw [hb,decide_eq_false hq] at hn1
    exact ⟨n - (j+1),by omega,j+1,rfl,by omega,rfl,hn1,hf04⟩
  ·have:j=n:=by omega
   subst this
   simp (maxSteps:=9^9) (disch:=first|assumption|decide|omega) only [go_sem,z3,t0]
   exact ⟨⟨_,rfl,by rw [hb];rfl⟩,hf⟩
set_option maxRecDepth 10000 in
theorem negative_x {σ:St} (hW:WF σ) {p:Nat→Prop} {v:B} {n:Nat} (K:Nat→Rat) (hC:HLp p σ.h 3 v n fun j=>ratC (K j)) (hK : ∀ j,Sz (K j)) (hn:n≤1000) :
  CallX EN 75 [.c v] σ fun r σ'=>r = .c (.int .i64 (negE K n))∧Fr σ σ':=by
 refine call_fn (O_defaultcost_negative _ _) F_defaultcost_negative ?_
 unfold a_defaultcost_negative
 have hc:CallX EN 125 [.c v,.fn 126 []] σ fun r σ'=>r = .c (.bool (negB K n))∧Fr σ σ':=by
  refine call_fn (O_slices_ContainsFunc__api_Rat_api_Rat _ _) F_slices_ContainsFunc__api_Rat_api_Rat ?_
  unfold a_slices_ContainsFunc__api_Rat_api_Rat
  simp (maxSteps:=9^9) (disch:=first|assumption|decide|omega) only [go_sem,z3]
  refine (idxneg_x hW K hC hK hn).mono ?_
  rintro _ σ2 ⟨⟨i,rfl,hi⟩,hf⟩
  simp (maxSteps:=9^9) (disch:=first|assumption|decide|omega) only [go_sem,z3,hi]
  exact hf
 simp (maxSteps:=9^9) (disch:=first|assumption|decide|omega) only [go_sem,z3]
 refine hc.mono ?_
 rintro _ σ2 ⟨rfl,hf⟩
 have hE:negE K n=if negB K n then .ofNat 7 else .ofNat 0:=rfl
 cases hb:negB K n with
 | true =>
  rw [hb] at hE
  simp (maxSteps:=9^9) (disch:=first|assumption|decide|omega) only [go_sem,z3]
  exact ⟨by rw [hE];rfl,hf⟩
 | false =>
  rw [hb] at hE
  simp (maxSteps:=9^9) (disch:=first|assumption|decide|omega) only [go_sem,z3]
  exact ⟨by rw [hE];rfl,hf⟩
def setE (g:Grp) (K:Nat→Rat):Int:=if chkG g = .ofNat 0 then negE K g.e.length else chkG g
set_option maxRecDepth 10000 in
theorem checkset_x {σ:St} (hW:WF σ) {p p1 p2:Nat→Prop} {ev dv cv iv:B} (g:Grp) (hg:HGrp p σ.h ev dv g) (hs:SmallG 134217728 g) (K:Nat→Rat) (F:Nat→B) (hC:HLp p1 σ.h 3 cv g.e.length fun j=>ratC (K j)) (hI:HLp p2 σ.h 1 iv g.e.length fun j=>[F j]) (hK : ∀ j,Sz (K j)) (hn:g.e.length≤1000) :
  CallX EN 41 [.agg [ev,dv],.c cv,.c iv] σ fun r σ'=>r = .c (.int .i64 (setE g K))∧Fr σ σ':=by
 refine call_fn (O_defaultcost_checkSet _ _) F_defaultcost_checkSet ?_
 unfold a_defaultcost_checkSet
 have hek:=hg.e.kn
 have hdk:=hg.d.kn
 have hlenE:=hg.e.len
 have hlenC:=hC.len
 have hlenI:=hI.len
 have hck:=hC.kn
 simp (maxSteps:=9^9) (disch:=first|assumption|decide|omega) only [go_sem,z3,hek,hdk]
 refine CallX.st (Fr σ) (fr) fun hF=>?_
 rw [x_Check (hg.fr hW hF) hs]
 have hd:decide (Int.ofNat g.e.length=Int.ofNat g.e.length)=true:=decide_eq_true rfl
 by_cases h0:chkG g = .ofNat 0
 ·rw [h0]
  simp (maxSteps:=9^9) (disch:=first|assumption|decide|omega) only [go_sem,z3,hek,hdk,hlenE,hlenC,hlenI,hd]
  refine (negative_x hF.wf K (hC.fr hW hF) hK hn).mono ?_
  rintro _ σ2 ⟨rfl,hf⟩
  have hf2:=hF.trans hf
  simp (maxSteps:=9^9) (disch:=first|assumption|decide|omega) only [go_sem,z3,true_and]
  exact ⟨by unfold setE;rw [if_pos h0],hf2⟩
 ·have h1:decide (chkG g = .ofNat 0)=false:=decide_eq_false h0
  simp (maxSteps:=9^9) (disch:=first|assumption|decide|omega) only [go_sem,z3,hek,hdk,h1]
  exact ⟨by unfold setE;rw [if_neg h0],hF⟩
def chM (m K:Nat→Rat) (F:Nat→Bool) (i:Nat):Nat→Rat:=fun j=>if j<i∧F j=true then maxR (m j - K j) 0 else m j
theorem chM_step (m K:Nat→Rat) (F:Nat→Bool) (i:Nat) (h:F i=true):chM m K F (i+1)=fun j=>if j=i then maxR (chM m K F i i - K i) 0 else chM m K F i j:=by
 funext j
 unfold chM
 by_cases e:j=i
 ·subst e
  rw [if_pos ⟨by omega,h⟩,if_pos rfl,if_neg (fun h=>by omega)]
 ·rw [if_neg e]
  by_cases h1:j<i∧F j=true
  ·rw [if_pos h1,if_pos ⟨by omega,h1.2⟩]
  ·rw [if_neg h1,if_neg (fun h2=>h1 ⟨by omega,h2.2⟩)]
theorem chM_skip (m K:Nat→Rat) (F:Nat→Bool) (i:Nat) (h:F i=false):chM m K F (i+1)=chM m K F i:=by
 funext j
 unfold chM
 by_cases h1:j<i∧F j=true
 ·rw [if_pos h1,if_pos ⟨by omega,h1.2⟩]
 ·rw [if_neg h1,if_neg (fun h2=>h1 ⟨by
   by_cases e:j=i
   ·subst e;rw [h] at h2;exact absurd h2.2 (by decide)
   ·omega,h2.2⟩)]
theorem chM_at (m K:Nat→Rat) (F:Nat→Bool) (i:Nat):chM m K F i i=m i:=if_neg fun h=>by omega
theorem ceF_wr {m:Nat→Rat} {C A:Nat→B} {n i:Nat} (hi:i<n) (q:Rat):wrC (celR n (ceF m C A)) (i*5) [.bool (rn q),.str (rs q),.str (rd q)]=some (celR n (ceF (fun j=>if j=i then q else m j) C A)):=by
 have:=wr_cel (e:=5) (k:=0) (vs:=[.bool (rn q),.str (rs q),.str (rd q)]) (n:=n) (i:=i) (G:=ceF m C A) (fun _=>rfl) hi (by simp)
 rw [Nat.add_zero] at this
 rw [this]
 show some _=some _
 congr 1
 refine cel_congr fun j hj=>?_
 unfold updG ceF
 by_cases e:j=i
 ·subst e
  rw [if_pos rfl];simp
 ·rw [if_neg e];simp [e]
theorem NL.setM {el:List Est} {C A:Nat→B} {m m' : Nat→Rat} {h h' : Tr Bk} {b n ty lo hi:Nat} {c:Cap} (ho:NL (RE el C A) h (.sl b 0 n c) n (ceF m C A) 5 ty lo hi) (hb:h' b=some ⟨celR n (ceF m' C A),some (5,ty)⟩) (hk : ∀ x,x<b→h' x=h x):NL (RE el C A) h' (.sl b 0 n c) n (ceF m' C A) 5 ty lo hi:=by
 rcases ho with ⟨-,h1⟩|⟨h0,b2,h1,k1,k2,k3,k4⟩
 ·cases h1
 ·cases h1
  exact .inr ⟨h0,b,rfl,hb,k2,k3,fun j hj=>qk_E el C A j _ _ _ _ (k4 j hj) (fun x hx=>hk x hx.2) fun x hx=>hx⟩
theorem NL.ekn {el:List Est} {C A:Nat→B} {m:Nat→Rat} {h:Tr Bk} {v:B} {n ty lo hi:Nat} (ho:NL (RE el C A) h v n (ceF m C A) 5 ty lo hi) (j:Nat) (hj:j<n):(ceF m C A j).all B.kn=true:=by
 obtain ⟨h1,h2⟩:=ho.el (fun j _=>qk_E el C A j) hj
 unfold ceF
 simp only [List.all_cons,List.all_nil,HLp.kn h1,HAgrs.kn h2,kn_bool,kn_str,Bool.and_self]
theorem sz_sub {r:R3} {K:Rat} (hr:r.fits 1000000) (hK:Sm 1000 K):Sz (r.q - K):=((sm_raw r.n r.s r.d).sub hK).mono (by have:=hr.1;have:=hr.2;unfold szK;omega)
set_option maxRecDepth 10000 in
theorem charge_x {σ:St} (hW:WF σ) {p p1 p2:Nat→Prop} {ev dv cv iv:B} (g:Grp) (hg:HGrp p σ.h ev dv g) (hs:SmallG 1000000 g) (hl:LenG 1000 g) (K:Nat→Rat) (F:Nat→Bool) (hC:HLp p1 σ.h 3 cv g.e.length fun j=>ratC (K j)) (hI:HLp p2 σ.h 1 iv g.e.length fun j=>[.bool (F j)]) (hK : ∀ j,Sm 1000 (K j)) :
  CallX EN 42 [.agg [ev,dv],.c cv,.c iv] σ fun r σ'=>(∃ ov dv',r = .agg [ov,dv']∧CpG g (chM (estM g.e) K F g.e.length) σ.nxt σ'.h σ'.nxt ov dv')∧Fr σ σ':=by
 refine call_fn (O_defaultcost_charge _ _) F_defaultcost_charge ?_
 unfold a_defaultcost_charge
 have hek:=hg.e.kn
 have hdk:=hg.d.kn
 have hlenI:=hI.len
 have hne:=hl.n
 simp (maxSteps:=9^9) (disch:=first|assumption|decide|omega) only [go_sem,z3,hek,hdk]
 refine CallX.st (Fr σ) (fr) fun hF=>?_
 refine (copygroup_x hF.wf g (hg.fr hW hF) hs hl).mono ?_
 rintro _ σ1 ⟨⟨ov,dv',rfl,C,A,mid,hN,hD,hm1,hm2⟩,hf1⟩
 have hF1:=hF.trans hf1
 have hle1:σ.nxt+1+1≤σ1.nxt:=hf1.le
 have hm1:σ.nxt+1+1≤mid:=hm1
 have q1:σ1.h (σ.nxt+1)=some ⟨[.nils,.nils],none⟩:=hf1.get hF.wf (hset_get _ _ _)
 have hok:=hN.own.kn
 have hdk':=hD.kn
 have h00:chM (estM g.e) K F 0=estM g.e:=by funext j;exact if_neg fun h=>by omega
 simp (maxSteps:=9^9) (disch:=first|assumption|decide|omega) only [go_sem,z3,hok,hdk',hlenI]
 refine run_loop (fun q tm σ'=>∃ i,q=g.e.length - i∧i≤g.e.length∧Tr.getV tm 1 = .c cv∧Tr.getV tm 6 = .c (.ptr (σ.nxt+1) 0)∧Tr.getV tm 7 = .c (.ptr σ1.nxt 0)∧Tr.getV tm 13 = .c iv∧Tr.getV tm 14 = .c (.int .i64 (.ofNat g.e.length))∧Tr.getV tm 15 = .c (.int .i64 (.ofNat i))
  ∧ σ'.h (σ.nxt+1)=some ⟨[.nils,.nils],none⟩∧σ'.h σ1.nxt=some ⟨[ov,dv'],none⟩∧NL (RE g.e C A) σ'.h ov g.e.length (ceF (chM (estM g.e) K F i) C A) 5 76 (σ.nxt+1+1) mid∧HDbts (fun b=>mid≤b∧b<σ1.nxt) σ'.h dv' (g.d.map clDb)∧Fr σ σ'∧σ1.nxt+1≤σ'.nxt) g.e.length ?_ ?_
 ·refine ⟨0,by omega,by omega,?_⟩
  simp (maxSteps:=9^9) (disch:=first|assumption|decide|omega) only [go_sem,z3,true_and]
  refine ⟨q1,?_,?_,fr,by omega⟩
  ·rw [h00]
   refine NL.mono hN (fun j _=>qk_E g.e C A j) ?_ (Nat.le_refl _)
   intro b h1 h2
   rw [hset_ne _ _ _ _ (by omega),hset_ne _ _ _ _ (by omega)]
  ·refine hD.keep ?_ fun b hb=>hb
   intro b hb
   have:=hb.2
   rw [hset_ne _ _ _ _ (by omega),hset_ne _ _ _ _ (by omega)]
 ·rintro q tm σ' ⟨i,rfl,hi,t1,t6,t7,t13,t14,t15,q1,q7,hN,hD,hf,hnx⟩
  have hle:=hf.le
  simp (maxSteps:=9^9) (disch:=first|assumption|decide|omega) only [go_sem,z3,t1,t6,t7,t13,t14,t15,lt_ofNat]
  refine ifV_dec (fun hlt=>?_) (fun hlt=>?_)
  ·obtain ⟨b5,o5,c5,rfl,-,hld5⟩:=hI.pos (by omega)
   have hld5:=hf.ld hW (ld_one (hld5 i hlt)).1
   obtain ⟨b6,o6,c6,rfl,-,hld6⟩:=hC.pos (by omega)
   have hld6:=hf.ld hW (hld6 i hlt)
   unfold ratC at hld6
   cases hFi:F i with
   | false =>
    rw [hFi] at hld5
    simp (maxSteps:=9^9) (disch:=first|assumption|decide|omega) only [go_sem,z3,t1,t6,t7,t13,t14,t15,hld5]
    refine ⟨g.e.length - (i+1),by omega,i+1,rfl,by omega,rfl,q1,q7,by rw [chM_skip _ _ _ _ hFi];exact hN,hD,hf,hnx⟩
   | true =>
    rw [hFi] at hld5
    rcases hN with ⟨h0,-⟩|⟨h0,ob,rfl,k1,k2,k3,k4⟩
    ·omega
    have hN:NL (RE g.e C A) σ'.h (.sl ob 0 g.e.length .opn) g.e.length (ceF (chM (estM g.e) K F i) C A) 5 76 (σ.nxt+1+1) mid:=.inr ⟨h0,ob,rfl,k1,k2,k3,k4⟩
    have hldE:=cel_ld (e:=5) (i:=i) k1 (by rw [rdo_s _ _ (by omega)]) (fun _=>rfl) (by decide) hN.ekn hlt
    have hldM:=ld_sub hldE 0 3 true (by decide) (by decide)
    rw [Nat.zero_add,Nat.add_zero] at hldM
    unfold ceF rdC at hldM
    rw [chM_at] at hldM
    simp only [List.drop_zero,List.take_succ_cons,List.take_zero,List.length_cons,List.length_nil,List.all_cons,List.all_nil,kn_bool,kn_str,Bool.and_self,Nat.reduceAdd,Nat.beq_refl,cond_true] at hldM
    have hsM:Sz (estM g.e i):=fit_sz (hs.e i hlt).m (by decide)
    have hsK:Sz (K i):=(hK i).mono (by unfold szK;omega)
    have hsS:Sz (estM g.e i - K i):=sz_sub (hs.e i hlt).m (hK i)
    have hz:=Sz.zero
    have hwr:=ceF_wr (m:=chM (estM g.e) K F i) (C:=C) (A:=A) hlt (maxR (estM g.e i - K i) 0)
    simp (maxSteps:=9^9) (disch:=first|assumption|decide|omega) only [go_sem,z3,t1,t6,t7,t13,t14,t15,hld5,ld_blk q7,hok,hdk',hld6,hldM,hsM,hsK,hsS,hz,sto_blk k1,hwr]
    refine ⟨g.e.length - (i+1),by omega,i+1,rfl,by omega,rfl,q1,q7,?_,?_,fr,hnx⟩
    ·rw [chM_step _ _ _ _ hFi,chM_at]
     exact hN.setM (hset_get _ _ _) fun x hx=>hset_ne _ _ _ _ (by omega)
    ·refine hD.keep ?_ fun b hb=>hb
     intro b hb
     have:=hb.1
     exact hset_ne _ _ _ _ (by omega)
  ·have:i=g.e.length:=by omega
   subst this
   simp (maxSteps:=9^9) (disch:=first|assumption|decide|omega) only [go_sem,z3,t6,t7,ld_blk q7,hok,hdk',sto_blk q1]
   refine ⟨⟨_,_,rfl,C,A,mid,?_,?_,by omega,by omega⟩,fr⟩
   ·refine NL.down (NL.mono hN (fun j _=>qk_E g.e C A j) ?_ (Nat.le_refl _)) (fun j _=>qk_E g.e C A j) (by omega)
    intro b h1 h2
    exact hset_ne _ _ _ _ (by omega)
   ·refine hD.keep ?_ fun b hb=>⟨hb.1,by omega⟩
    intro b hb
    have:=hb.1
    exact hset_ne _ _ _ _ (by omega)
def ChV (g:Grp) (K:Nat→Rat) (F:Nat→Bool) (lo:Nat) (σ' : St) (r:V):Prop:=(setE g K≠0∧r = .tcons (.agg [.nils,.nils]) (.tcons (.c (.int .i64 (setE g K))) .tnil))∨(setE g K=0∧∃ ov dv',r = .tcons (.agg [ov,dv']) (.tcons (.c (.int .i64 (.ofNat 0))) .tnil)∧CpG g (chM (estM g.e) K F g.e.length) lo σ'.h σ'.nxt ov dv')
theorem CpG.kn {g:Grp} {m:Nat→Rat} {lo hi:Nat} {h:Tr Bk} {ov dv:B} (hc:CpG g m lo h hi ov dv):ov.kn=true∧dv.kn=true:=by
 obtain ⟨C,A,mid,h1,h2,-⟩:=hc
 exact ⟨h1.own.kn,h2.kn⟩
theorem CpG.mono {g:Grp} {m:Nat→Rat} {lo lo2 hi hi2:Nat} {h h' : Tr Bk} {ov dv:B} (hc:CpG g m lo h hi ov dv) (hk : ∀ b,lo≤b→b<hi→h' b=h b) (h1:lo2≤lo) (h2:hi≤hi2):CpG g m lo2 h' hi2 ov dv:=by
 obtain ⟨C,A,mid,k1,k2,k3,k4⟩:=hc
 refine ⟨C,A,mid,NL.down (NL.mono k1 (fun j _=>qk_E g.e C A j) (fun b h1 h2=>hk b h1 (by omega)) (Nat.le_refl _)) (fun j _=>qk_E g.e C A j) h1,k2.keep (fun b hb=>hk b (by omega) hb.2) fun b hb=>⟨hb.1,by omega⟩,by omega,by omega⟩
set_option maxRecDepth 10000 in
theorem dcharge_x {σ:St} (hW:WF σ) {p p1 p2:Nat→Prop} {ev dv cv iv:B} (g:Grp) (hg:HGrp p σ.h ev dv g) (hs:SmallG 1000000 g) (hs2:SmallG 134217728 g) (hl:LenG 1000 g) (K:Nat→Rat) (F:Nat→Bool) (hC:HLp p1 σ.h 3 cv g.e.length fun j=>ratC (K j)) (hI:HLp p2 σ.h 1 iv g.e.length fun j=>[.bool (F j)]) (hK : ∀ j,Sm 1000 (K j)) :
  CallX EN 17 [.agg [ev,dv],.c cv,.c iv] σ fun r σ'=>ChV g K F σ.nxt σ' r∧Fr σ σ':=by
 refine call_fn (O_defaultcost_Charge _ _) F_defaultcost_Charge ?_
 unfold a_defaultcost_Charge
 have hek:=hg.e.kn
 have hdk:=hg.d.kn
 have hck:=hC.kn
 have hik:=hI.kn
 have hKs : ∀ j,Sz (K j):=fun j=>(hK j).mono (by unfold szK;omega)
 simp (maxSteps:=9^9) (disch:=first|assumption|decide|omega) only [go_sem,z3,hek,hdk]
 refine CallX.st (Fr σ) (fr) fun hF=>?_
 refine (checkset_x hF.wf g (hg.fr hW hF) hs2 K (fun j=>.bool (F j)) (hC.fr hW hF) (hI.fr hW hF) hKs hl.n).mono ?_
 rintro _ σ1 ⟨rfl,hf1⟩
 have hF1:=hF.trans hf1
 have hle1:σ.nxt+1+1≤σ1.nxt:=hf1.le
 have q0:σ1.h σ.nxt=some ⟨[ev,dv],none⟩:=hf1.get hF.wf ((hset_ne _ _ _ _ (by omega)).trans (hset_get _ _ _))
 have q1:σ1.h (σ.nxt+1)=some ⟨[.nils,.nils],none⟩:=hf1.get hF.wf (hset_get _ _ _)
 by_cases h0:setE g K = .ofNat 0
 ·rw [h0]
  simp (maxSteps:=9^9) (disch:=first|assumption|decide|omega) only [go_sem,z3,ld_blk q0,hek,hdk]
  refine (charge_x hf1.wf g (hg.fr hW hF1) hs hl K F (hC.fr hW hF1) (hI.fr hW hF1) hK).mono ?_
  rintro _ σ2 ⟨⟨ov,dv',rfl,hR⟩,hf2⟩
  have hF2:=hF1.trans hf2
  have hle2:=hf2.le
  have q1':=hf2.get hf1.wf q1
  obtain ⟨k1,k2⟩:=hR.kn
  simp (maxSteps:=9^9) (disch:=first|assumption|decide|omega) only [go_sem,z3,sto_blk q1',k1,k2]
  refine ⟨.inr ⟨h0,ov,dv',rfl,?_⟩,fr⟩
  refine hR.mono ?_ (by omega) (Nat.le_refl _)
  intro b h1 h2
  exact hset_ne _ _ _ _ (by omega)
 ·have h1:decide (setE g K = .ofNat 0)=false:=decide_eq_false h0
  simp (maxSteps:=9^9) (disch:=first|assumption|decide|omega) only [go_sem,z3,h1,sto_blk q1]
  exact ⟨.inl ⟨h0,rfl⟩,fr⟩
set_option maxRecDepth 10000 in
theorem rcleanagr_x {σ:St} (hW:WF σ) {p:Nat→Prop} {A:B} (a:Agr) (hA:HTiers p σ.h A a) (hla:a.length≤1000) (hlp : ∀ t,t<a.length→(ix a t).length≤1000) (hfit : ∀ t l,t<a.length→l<(ix a t).length→(ix (ix a t) l).a.fits 1000000) :
  CallX EN 136 [.agg [A]] σ fun r σ'=>(∃ A',r = .agg [A']∧HTiers (fun b=>σ.nxt≤b∧b<σ'.nxt) σ'.h A' (clAg a))∧Fr σ σ':=by
 refine call_fn (O_r21_cleanAgreement _ _) F_r21_cleanAgreement ?_
 unfold a_r21_cleanAgreement
 have hAk:=hA.kn
 have hlenA:=hA.len
 simp (maxSteps:=9^9) (disch:=first|assumption|decide|omega) only [go_sem,z3,hAk]
 refine RunX.mono (Q:=fun ex tm σ'=>ex = .exit 0∧∃ tv U,Tr.getV tm 2 = .c (.ptr (σ.nxt+1) 0)∧Tr.getV tm 3 = .c (.ptr (σ.nxt+1+1) 0)∧σ'.h (σ.nxt+1)=some ⟨[.nils],none⟩∧σ'.h (σ.nxt+1+1)=some ⟨[tv],none⟩∧NU (RTi a) U σ'.h tv a.length 85 (σ.nxt+1+1+1) σ'.nxt∧Fr σ σ'∧σ.nxt+1+1+1≤σ'.nxt)
  (run_loop (fun q tm σ'=>∃ t tv U,q=a.length - t∧t≤a.length∧Tr.getV tm 1 = .c (.ptr σ.nxt 0)∧Tr.getV tm 2 = .c (.ptr (σ.nxt+1) 0)∧Tr.getV tm 3 = .c (.ptr (σ.nxt+1+1) 0)∧Tr.getV tm 4 = .c (.int .i64 (.ofNat t))
   ∧ σ'.h σ.nxt=some ⟨[A],none⟩∧σ'.h (σ.nxt+1)=some ⟨[.nils],none⟩∧σ'.h (σ.nxt+1+1)=some ⟨[tv],none⟩∧NU (RTi a) U σ'.h tv t 85 (σ.nxt+1+1+1) σ'.nxt∧Fr σ σ'∧σ.nxt+1+1+1≤σ'.nxt) a.length ?_ ?_) ?_
 ·refine ⟨0,.nils,fun _=>.nils,by omega,by omega,?_⟩
  simp (maxSteps:=9^9) (disch:=first|assumption|decide|omega) only [go_sem,z3,true_and]
  exact ⟨NL.nil,fr,by omega⟩
 ·rintro q tm σ4 ⟨t,tv,U,rfl,ht,t1,t2,t3,t4,q0,q1,q2,hU,hf4,hn4⟩
  have hle4:=hf4.le
  simp (maxSteps:=9^9) (disch:=first|assumption|decide|omega) only [go_sem,z3,t1,t2,t3,t4,ld_blk q0,hAk,hlenA,lt_ofNat]
  refine ifV_dec (fun hltt=>?_) (fun hltt=>?_)
  ·obtain ⟨b6,o6,c6,rfl,P1,hld6,hP1⟩:=hA.at hltt
   have hld6:=hf4.ld hW hld6
   have hP1k:=HLp.kn hP1
   have hlenP:=HLp.len hP1
   have hlp2:=hlp t hltt
   have hfit2:=hfit t
   have hRT : ∀ u p h,RTi a u p h t=HParts p h u (clTr (ix a t)):=fun _ _ _=>rfl
   generalize ix a t=r at *
   simp (maxSteps:=9^9) (disch:=first|assumption|decide|omega) only [go_sem,z3,t1,t2,t3,t4]
   refine RunX.mono (Q:=fun ex tm σ5=>ex = .exit 2∧∃ lv,Tr.getV tm 1 = .c (.ptr σ.nxt 0)∧Tr.getV tm 2 = .c (.ptr (σ.nxt+1) 0)∧Tr.getV tm 3 = .c (.ptr (σ.nxt+1+1) 0)∧Tr.getV tm 4 = .c (.int .i64 (.ofNat t))∧Tr.getV tm 5 = .c lv∧OwnL σ5.h lv r.length (cpF r) 5 84 σ4.nxt σ5.nxt∧Fr σ4 σ5)
    (run_loop (fun q tm σ5=>∃ l lv,q=r.length - l∧l≤r.length∧Tr.getV tm 1 = .c (.ptr σ.nxt 0)∧Tr.getV tm 2 = .c (.ptr (σ.nxt+1) 0)∧Tr.getV tm 3 = .c (.ptr (σ.nxt+1+1) 0)∧Tr.getV tm 4 = .c (.int .i64 (.ofNat t))∧Tr.getV tm 5 = .c lv∧Tr.getV tm 6 = .c (.int .i64 (.ofNat l))
     ∧ OwnL σ5.h lv l (cpF r) 5 84 σ4.nxt σ5.nxt∧Fr σ4 σ5) r.length ?_ ?_) ?_
   ·refine ⟨0,.nils,by omega,by omega,?_⟩
    simp (maxSteps:=9^9) (disch:=first|assumption|decide|omega) only [go_sem,z3,t1,t2,t3,t4,true_and]
    exact ⟨.nil,Fr.refl hf4.wf⟩
   ·rintro q tm σ5 ⟨l,lv,rfl,hll,t1,t2,t3,t4,t5,t6,hO5,hf5⟩
    have hle5:=hf5.le
    have q05:=hf5.get hf4.wf q0
    have hld65:=hf5.ld hf4.wf hld6
    simp (maxSteps:=9^9) (disch:=first|assumption|decide|omega) only [go_sem,z3,t1,t2,t3,t4,t5,t6,ld_blk q05,hld65,hP1k,hlenP,lt_ofNat]
    refine ifV_dec (fun hltl=>?_) (fun hltl=>?_)
    ·obtain ⟨b7,o7,c7,rfl,-,hld7⟩:=HLp.pos hP1 (by omega)
     have hld7:=(hf4.trans hf5).ld hW (hld7 l hltl)
     unfold prtB at hld7
     have hfit3:=fit_two (hfit2 l hltt hltl) (by decide)
     have hlk:=hO5.kn
     rcases hO5.cases with ⟨rfl,rfl⟩|⟨hl0,b8,rfl,k1,k2,k3⟩
     ·simp (maxSteps:=9^9) (disch:=first|assumption|decide|omega) only [go_sem,z3,t1,t2,t3,t4,t5,t6,ld_blk q05,hld65,hP1k,hld7,hfit3]
      refine ⟨r.length - 1,by omega,1,_,rfl,by omega,rfl,rfl,OwnL.of (n:=0) (by rw [hset_get];rfl) (by omega) (by omega),fr⟩
     ·have hrl:=cel_lenC (n:=l) (G:=cpF r) (e:=5) fun _=>rfl
      have hrt:=cel_take (n:=l) (G:=cpF r) (e:=5) fun _=>rfl
      simp (maxSteps:=9^9) (disch:=first|assumption|decide|omega) only [go_sem,z3,t1,t2,t3,t4,t5,t6,ld_blk q05,hld65,hP1k,hld7,hfit3,k1]
      refine ⟨r.length - (l+1),by omega,l+1,_,rfl,by omega,rfl,rfl,OwnL.of (by rw [hset_get,hrt];rfl) (by omega) (by omega),fr⟩
    ·have:l=r.length:=by omega
     subst this
     simp (maxSteps:=9^9) (disch:=first|assumption|decide|omega) only [go_sem,z3,true_and]
     exact ⟨lv,t1,t2,t3,t4,t5,hO5,hf5⟩
   ·rintro _ tm σ5 ⟨rfl,lv,t1,t2,t3,t4,t5,hO5,hf5⟩
    have hle5:=hf5.le
    have hlk:=hO5.kn
    have htk:=hU.kn
    have q05:=hf5.get hf4.wf q0
    have q15:=hf5.get hf4.wf q1
    have q25:=hf5.get hf4.wf q2
    have hf45:=hf4.trans hf5
    have hx:RTi a lv (fun b=>σ4.nxt≤b∧b<σ5.nxt) σ5.h t:=by
     rw [hRT]
     exact hO5.parts fun b h1 h2=>⟨h1,h2⟩
    rcases hU.cases with ⟨rfl,rfl⟩|⟨ht0,b8,rfl,k1,k2,k3⟩
    ·simp (maxSteps:=9^9) (disch:=first|assumption|decide|omega) only [go_sem,z3,t1,t2,t3,t4,t5,ld_blk q25,q25,hlk]
     refine ⟨a.length - 1,by omega,1,_,updF U 0 lv,rfl,by omega,rfl,q05,q15,rfl,?_,fr,by omega⟩
     refine hU.push (rk_T a) hx (fun b _ hb=>hf5.old b hb) hle5 (by omega) (by omega) (by omega) (cells:=[lv]) rfl ?_ fun b h1 h2 _=>?_
     ·rw [hset_ne _ _ _ _ (by omega),hset_get]
     ·rw [hset_ne _ _ _ _ (by omega),hset_ne _ _ _ _ (by omega),hset_ne _ _ _ _ (by omega)]
    ·have k1':=hf5.get hf4.wf k1
     have hrl:=cel_lenC (n:=t) (G:=fun j=>[U j]) (e:=1) fun _=>rfl
     have hrt:=cel_take (n:=t) (G:=fun j=>[U j]) (e:=1) fun _=>rfl
     simp (maxSteps:=9^9) (disch:=first|assumption|decide|omega) only [go_sem,z3,t1,t2,t3,t4,t5,ld_blk q25,q25,hlk,k1']
     refine ⟨a.length - (t+1),by omega,t+1,_,updF U t lv,rfl,by omega,rfl,q05,q15,rfl,?_,fr,by omega⟩
     refine hU.push (rk_T a) hx (fun b _ hb=>hf5.old b hb) hle5 (by omega) (by omega) (by omega) rfl ?_ fun b h1 h2 h3=>?_
     ·rw [hset_ne _ _ _ _ (by omega),hset_get,hrt]
     ·have h3:=h3 _ _ _ rfl
      rw [hset_ne _ _ _ _ (by omega),hset_ne _ _ _ _ (by omega),hdel_ne _ _ _ (by omega),hset_ne _ _ _ _ (by omega)]
  ·have:t=a.length:=by omega
   subst this
   simp (maxSteps:=9^9) (disch:=first|assumption|decide|omega) only [go_sem,z3,true_and]
   exact ⟨tv,U,t2,t3,q1,q2,hU,hf4,hn4⟩
 ·rintro _ tm σ4 ⟨rfl,tv,U,t2,t3,q1,q2,hU,hf4,hn4⟩
  have hle4:=hf4.le
  have htk:=hU.kn
  simp (maxSteps:=9^9) (disch:=first|assumption|decide|omega) only [go_sem,z3,t2,t3,ld_blk q2,htk,sto_blk q1]
  refine ⟨⟨_,rfl,?_⟩,fr⟩
  refine hU.tiers.keep ?_ fun b hb=>⟨by omega,hb.2⟩
  intro b hb
  have:=hb.1
  exact hset_ne _ _ _ _ (by omega)
end Go.Proofs.Xe
