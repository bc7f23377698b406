/- The executor: the two checks of a group, as rules (with the whole XG only). -/
import Derived.Test.YtiaefgffeekfkaaGreatDoorY37
set_option linter.unusedSimpArgs false
set_option linter.unusedVariables false
set_option maxHeartbeats 8000000
namespace Go.Proofs.Xe
open Go.RowKit Go.Proofs.Ins
theorem HAgrs.at {p:Nat→Prop} {h:Tr Bk} {v:B} {l:List Agr} (hl:HAgrs p h v l) {j:Nat} (hj:j<l.length) : ∃ b o c,v = .sl b o l.length c∧∃ T:B,ld h b (o+j*1) 1 true=some (.agg [T])∧HTiers p h T (ix l j):=by
 obtain ⟨T,h1,h2⟩:=hl
 obtain ⟨b,o,c,e,-,hld⟩:=h1.pos (by omega)
 exact ⟨b,o,c,e,T j,hld j hj,h2 j hj⟩
theorem HTiers.at {p:Nat→Prop} {h:Tr Bk} {v:B} {l:Agr} (hl:HTiers p h v l) {j:Nat} (hj:j<l.length) : ∃ b o c,v = .sl b o l.length c∧∃ T:B,ld h b (o+j*1) 1 false=some (.c T)∧HParts p h T (ix l j):=by
 obtain ⟨T,h1,h2⟩:=hl
 obtain ⟨b,o,c,e,-,hld⟩:=h1.pos (by omega)
 exact ⟨b,o,c,e,T j,(ld_one (hld j hj)).1,h2 j hj⟩
theorem HAgrs.len {p:Nat→Prop} {h:Tr Bk} {v:B} {l:List Agr} (hl:HAgrs p h v l):lenV (.c v)=some (.c (.int .i64 (.ofNat l.length))):=hl.choose_spec.1.len
theorem HTiers.len {p:Nat→Prop} {h:Tr Bk} {v:B} {l:Agr} (hl:HTiers p h v l):lenV (.c v)=some (.c (.int .i64 (.ofNat l.length))):=hl.choose_spec.1.len
theorem OwnL.cases {h:Tr Bk} {v:B} {n:Nat} {G:Nat→List B} {e ty lo hi:Nat} (ho:OwnL h v n G e ty lo hi):(n=0∧v = .nils)∨(0<n∧∃ b,v = .sl b 0 n .opn∧h b=some ⟨celR n G,some (e,ty)⟩∧lo≤b∧b<hi):=ho
theorem cel_lenC {e n:Nat} {G:Nat→List B} (hG : ∀ j,(G j).length=e):n*e≤(celR n G).length:=by rw [cel_len hG];exact Nat.le_refl _
def ccF (c:List C5):Nat→List B:=fun k=>c5B (clCl (ix c k))
def cpF (t:List Prt):Nat→List B:=fun k=>prtB (clPt (ix t k))
section
variable {m0 m1 m2:B}
set_option maxRecDepth 10000 in
theorem copyest_x {σ:St} (hW:WF σ) {p p' : Nat→Prop} (e:Est) (he:SmallE 1000000 e) (hl:LenE 1000 e) {C A:B} (hC:HClaims p σ.h C e.c) (hA:HAgrs p' σ.h A e.a) :
  CallX EN 128 [.agg [.bool e.m.n,.str e.m.s,.str e.m.d,C,A]] σ fun r σ'=>(∃ C' A',r = .agg [.bool (rn e.m.q),.str (rs e.m.q),.str (rd e.m.q),C',A']∧HClaims (fun b=>σ.nxt≤b∧b<σ'.nxt) σ'.h C' (e.c.map clCl)∧HAgrs (fun b=>σ.nxt≤b∧b<σ'.nxt) σ'.h A' (e.a.map clAg))∧Fr σ σ':=by
 refine call_fn (O_defaultcost_copyEstate _ _) F_defaultcost_copyEstate ?_
 unfold a_defaultcost_copyEstate
 have hCk:=HLp.kn hC
 have hAk:=hA.kn
 have hlenC:=HLp.len hC
 have hlenA:=hA.len
 have hlc:=hl.c
 have hla:=hl.a
 simp (maxSteps:=9^9) (disch:=first|assumption|decide|omega) only [go_sem,z3,hCk,hAk]
 refine CallX.st (Fr σ) (fr) fun hF1=>?_
 refine (clean_x hF1.wf e.m he.m).mono ?_
 rintro _ σ1 ⟨rfl,hf1⟩
 unfold rV
 have hF:=hF1.trans hf1
 have hle1:σ.nxt+1+1≤σ1.nxt:=hf1.le
 have q0:σ1.h σ.nxt=some ⟨[.bool e.m.n,.str e.m.s,.str e.m.d,C,A],none⟩:=hf1.get hF1.wf ((hset_ne _ _ _ _ (by omega)).trans (hset_get _ _ _))
 have q1:σ1.h (σ.nxt+1)=some ⟨[.bool (rn 0),.str (rs 0),.str (rd 0),.nils,.nils],none⟩:=hf1.get hF1.wf (hset_get _ _ _)
 generalize e.m.q=mq at *
 simp (maxSteps:=9^9) (disch:=first|assumption|decide|omega) only [go_sem,z3,hCk,hAk,hlenC,ld_blk q0]
 refine RunX.mono (Q:=fun ex tm σ'=>ex = .exit 0∧∃ cv,Tr.getV tm 1 = .c (.ptr σ.nxt 0)∧Tr.getV tm 2 = .c (.ptr (σ.nxt+1) 0)∧Tr.getV tm 3 = .c (.ptr σ1.nxt 0)∧σ'.h σ1.nxt=some ⟨[.bool (rn mq),.str (rs mq),.str (rd mq),cv,.nils],none⟩∧OwnL σ'.h cv e.c.length (ccF e.c) 5 79 (σ1.nxt+1) σ'.nxt∧Fr σ1 σ'∧σ1.nxt+1≤σ'.nxt)
  (run_loop (fun q tm σ'=>∃ k cv,q=e.c.length - k∧k≤e.c.length∧Tr.getV tm 1 = .c (.ptr σ.nxt 0)∧Tr.getV tm 2 = .c (.ptr (σ.nxt+1) 0)∧Tr.getV tm 3 = .c (.ptr σ1.nxt 0)∧Tr.getV tm 19 = .c C∧Tr.getV tm 20 = .c (.int .i64 (.ofNat e.c.length))∧Tr.getV tm 21 = .c (.int .i64 (.ofNat k))
   ∧ σ'.h σ1.nxt=some ⟨[.bool (rn mq),.str (rs mq),.str (rd mq),cv,.nils],none⟩∧OwnL σ'.h cv k (ccF e.c) 5 79 (σ1.nxt+1) σ'.nxt∧Fr σ1 σ'∧σ1.nxt+1≤σ'.nxt) e.c.length ?_ ?_) ?_
 ·refine ⟨0,.nils,by omega,by omega,?_⟩
  simp (maxSteps:=9^9) (disch:=first|assumption|decide|omega) only [go_sem,z3,true_and]
  have hFr:=Fr.refl hF.wf
  exact ⟨.nil,fr,by omega⟩
 ·rintro q tm σ' ⟨k,cv,rfl,hk,t1,t2,t3,t19,t20,t21,q3,hO,hf,hnx⟩
  have hle:=hf.le
  simp (maxSteps:=9^9) (disch:=first|assumption|decide|omega) only [go_sem,z3,t1,t2,t3,t19,t20,t21,lt_ofNat]
  refine ifV_dec (fun hlt=>?_) (fun hlt=>?_)
  ·obtain ⟨b5,o5,c5,rfl,-,hld5⟩:=HLp.pos hC (by omega)
   have hld5:=(hF.trans hf).ld hW (hld5 k hlt)
   unfold c5B at hld5
   have hfit:=he.c k hlt
   have hG:ccF e.c k=[.int .i64 (ix e.c k).h,.int .i64 (ix e.c k).r,.bool (rn (ix e.c k).a.q),.str (rs (ix e.c k).a.q),.str (rd (ix e.c k).a.q)]:=rfl
   simp (maxSteps:=9^9) (disch:=first|assumption|decide|omega) only [go_sem,z3,t1,t2,t3,t19,t20,t21,hld5]
   refine CallX.st (Fr σ') (by have hFr:=Fr.refl hf.wf;exact fr) fun hF3=>?_
   refine (clean_x hF3.wf _ hfit).mono ?_
   rintro _ σ4 ⟨rfl,hf4⟩
   unfold rV
   have hF4:=hF3.trans hf4
   have hle4:σ'.nxt+1≤σ4.nxt:=hf4.le
   have q3':=hF4.get hf.wf q3
   have q5:σ4.h σ'.nxt=some ⟨[.int .i64 (ix e.c k).h,.int .i64 (ix e.c k).r,.bool (ix e.c k).a.n,.str (ix e.c k).a.s,.str (ix e.c k).a.d],none⟩:=hf4.get hF3.wf (hset_get _ _ _)
   have hok:=hO.kn
   have hf04:=hf.trans hF4
   rcases hO.cases with ⟨rfl,rfl⟩|⟨hk0,b6,rfl,k1,k2,k3⟩
   ·simp (maxSteps:=9^9) (disch:=first|assumption|decide|omega) only [go_sem,z3,t1,t2,t3,t19,t20,t21,sto_blk q5,ld_blk q3',q3']
    refine ⟨e.c.length - 1,by omega,1,_,rfl,by omega,rfl,rfl,OwnL.of (n:=0) (by rw [hset_ne _ _ _ _ (by omega),hset_get];rfl) (by omega) (by omega),fr,by omega⟩
   ·have hrl:=cel_lenC (n:=k) (G:=ccF e.c) (e:=5) fun _=>rfl
    have hrt:=cel_take (n:=k) (G:=ccF e.c) (e:=5) fun _=>rfl
    have k1':=hF4.get hf.wf k1
    simp (maxSteps:=9^9) (disch:=first|assumption|decide|omega) only [go_sem,z3,t1,t2,t3,t19,t20,t21,sto_blk q5,ld_blk q3',q3',k1']
    refine ⟨e.c.length - (k+1),by omega,k+1,_,rfl,by omega,rfl,rfl,OwnL.of (by rw [hset_ne _ _ _ _ (by omega),hset_get,hrt];rfl) (by omega) (by omega),fr,by omega⟩
  ·have:k=e.c.length:=by omega
   subst this
   simp (maxSteps:=9^9) (disch:=first|assumption|decide|omega) only [go_sem,z3,true_and]
   exact ⟨cv,t1,t2,t3,q3,hO,hf,hnx⟩
 ·rintro _ tm σ2 ⟨rfl,cv,t1,t2,t3,q3,hO,hf,hnx⟩
  have hle2:=hf.le
  have hF2:=hF.trans hf
  have hok:=hO.kn
  have q0':=hf.get hF.wf q0
  clear q0
  simp (maxSteps:=9^9) (disch:=first|assumption|decide|omega) only [go_sem,z3,t1,t2,t3,ld_blk q0',hlenA,hAk,hCk]
  refine RunX.mono (Q:=fun ex tm σ'=>ex = .exit 2∧∃ av T,Tr.getV tm 2 = .c (.ptr (σ.nxt+1) 0)∧Tr.getV tm 3 = .c (.ptr σ1.nxt 0)∧σ'.h σ1.nxt=some ⟨[.bool (rn mq),.str (rs mq),.str (rd mq),cv,av],none⟩∧OwnL σ'.h cv e.c.length (ccF e.c) 5 79 (σ1.nxt+1) σ2.nxt∧NU (RAi e.a) T σ'.h av e.a.length 82 σ2.nxt σ'.nxt∧Fr σ1 σ'∧σ2.nxt≤σ'.nxt)
   (run_loop (fun q tm σ'=>∃ k av T,q=e.a.length - k∧k≤e.a.length∧Tr.getV tm 2 = .c (.ptr (σ.nxt+1) 0)∧Tr.getV tm 3 = .c (.ptr σ1.nxt 0)∧Tr.getV tm 37 = .c A∧Tr.getV tm 38 = .c (.int .i64 (.ofNat e.a.length))∧Tr.getV tm 39 = .c (.int .i64 (.ofNat k))
    ∧ σ'.h σ1.nxt=some ⟨[.bool (rn mq),.str (rs mq),.str (rd mq),cv,av],none⟩∧OwnL σ'.h cv e.c.length (ccF e.c) 5 79 (σ1.nxt+1) σ2.nxt∧NU (RAi e.a) T σ'.h av k 82 σ2.nxt σ'.nxt∧Fr σ1 σ'∧σ2.nxt≤σ'.nxt) e.a.length ?_ ?_) ?_
  ·refine ⟨0,.nils,fun _=>.nils,by omega,by omega,?_⟩
   simp (maxSteps:=9^9) (disch:=first|assumption|decide|omega) only [go_sem,z3,t2,t3,true_and]
   exact ⟨q3,hO,NL.nil,hf,by omega⟩
  ·rintro q tm σ' ⟨k,av,T,rfl,hk,t2,t3,t37,t38,t39,q3,hO,hN,hf,hn2⟩
   have hle:=hf.le
   simp (maxSteps:=9^9) (disch:=first|assumption|decide|omega) only [go_sem,z3,t2,t3,t37,t38,t39,lt_ofNat]
   refine ifV_dec (fun hlt=>?_) (fun hlt=>?_)
   ·obtain ⟨b5,o5,c5,rfl,T1,hld5,hT1⟩:=hA.at hlt
    have hld5:=(hF.trans hf).ld hW hld5
    have hT1k:=hT1.kn
    have hlenT:=hT1.len
    have hlt1:=hl.t k hlt
    have hlp1:=hl.p k
    have hfit1:=he.a k
    have hRA : ∀ u p h,RAi e.a u p h k=HTiers p h u (clAg (ix e.a k)):=fun _ _ _=>rfl
    generalize ix e.a k=a at *
    simp (maxSteps:=9^9) (disch:=first|assumption|decide|omega) only [go_sem,z3,t2,t3,t37,t38,t39,hld5,hT1k,hlenT]
    refine RunX.mono (Q:=fun ex tm σ4=>ex = .exit 4∧∃ tv U,Tr.getV tm 2 = .c (.ptr (σ.nxt+1) 0)∧Tr.getV tm 3 = .c (.ptr σ1.nxt 0)∧Tr.getV tm 8 = .c (.ptr (σ'.nxt+1) 0)∧Tr.getV tm 37 = .c (.sl b5 o5 e.a.length c5)∧Tr.getV tm 38 = .c (.int .i64 (.ofNat e.a.length))∧Tr.getV tm 39 = .c (.int .i64 (.ofNat k))
     ∧ σ4.h (σ'.nxt+1)=some ⟨[tv],none⟩∧NU (RTi a) U σ4.h tv a.length 85 (σ'.nxt+1+1) σ4.nxt∧Fr σ' σ4∧σ'.nxt+1+1≤σ4.nxt)
     (run_loop (fun q tm σ4=>∃ t tv U,q=a.length - t∧t≤a.length∧Tr.getV tm 2 = .c (.ptr (σ.nxt+1) 0)∧Tr.getV tm 3 = .c (.ptr σ1.nxt 0)∧Tr.getV tm 8 = .c (.ptr (σ'.nxt+1) 0)∧Tr.getV tm 37 = .c (.sl b5 o5 e.a.length c5)∧Tr.getV tm 38 = .c (.int .i64 (.ofNat e.a.length))∧Tr.getV tm 39 = .c (.int .i64 (.ofNat k))∧Tr.getV tm 44 = .c T1∧Tr.getV tm 45 = .c (.int .i64 (.ofNat a.length))∧Tr.getV tm 46 = .c (.int .i64 (.ofNat t))
      ∧ σ4.h (σ'.nxt+1)=some ⟨[tv],none⟩∧NU (RTi a) U σ4.h tv t 85 (σ'.nxt+1+1) σ4.nxt∧Fr σ' σ4∧σ'.nxt+1+1≤σ4.nxt) a.length ?_ ?_) ?_
    ·refine ⟨0,.nils,fun _=>.nils,by omega,by omega,?_⟩
     simp (maxSteps:=9^9) (disch:=first|assumption|decide|omega) only [go_sem,z3,t2,t3,t37,t38,t39,true_and]
     have hFr:=Fr.refl hf.wf
     exact ⟨NL.nil,fr,by omega⟩
    ·rintro q tm σ4 ⟨t,tv,U,rfl,ht,t2,t3,t8,t37,t38,t39,t44,t45,t46,q8,hU,hf4,hn4⟩
     have hle4:=hf4.le
     simp (maxSteps:=9^9) (disch:=first|assumption|decide|omega) only [go_sem,z3,t2,t3,t8,t37,t38,t39,t44,t45,t46,lt_ofNat]
     refine ifV_dec (fun hltt=>?_) (fun hltt=>?_)
     ·obtain ⟨b6,o6,c6,rfl,P1,hld6,hP1⟩:=hT1.at hltt
      have hld6:=(hF.trans (hf.trans hf4)).ld hW hld6
      have hP1k:=HLp.kn hP1
      have hlenP:=HLp.len hP1
      have hlp2:=hlp1 t hlt hltt
      have hfit2:=hfit1 t
      have hRT : ∀ u p h,RTi a u p h t=HParts p h u (clTr (ix a t)):=fun _ _ _=>rfl
      generalize ix a t=r at *
      simp (maxSteps:=9^9) (disch:=first|assumption|decide|omega) only [go_sem,z3,t2,t3,t8,t37,t38,t39,t44,t45,t46,hld6,hP1k,hlenP]
      refine RunX.mono (Q:=fun ex tm σ5=>ex = .exit 6∧∃ lv,Tr.getV tm 2 = .c (.ptr (σ.nxt+1) 0)∧Tr.getV tm 3 = .c (.ptr σ1.nxt 0)∧Tr.getV tm 8 = .c (.ptr (σ'.nxt+1) 0)∧Tr.getV tm 37 = .c (.sl b5 o5 e.a.length c5)∧Tr.getV tm 38 = .c (.int .i64 (.ofNat e.a.length))∧Tr.getV tm 39 = .c (.int .i64 (.ofNat k))∧Tr.getV tm 44 = .c (.sl b6 o6 a.length c6)∧Tr.getV tm 45 = .c (.int .i64 (.ofNat a.length))∧Tr.getV tm 46 = .c (.int .i64 (.ofNat t))∧Tr.getV tm 11 = .c lv∧OwnL σ5.h lv r.length (cpF r) 5 84 σ4.nxt σ5.nxt∧Fr σ4 σ5)
       (run_loop (fun q tm σ5=>∃ l lv,q=r.length - l∧l≤r.length∧Tr.getV tm 2 = .c (.ptr (σ.nxt+1) 0)∧Tr.getV tm 3 = .c (.ptr σ1.nxt 0)∧Tr.getV tm 8 = .c (.ptr (σ'.nxt+1) 0)∧Tr.getV tm 37 = .c (.sl b5 o5 e.a.length c5)∧Tr.getV tm 38 = .c (.int .i64 (.ofNat e.a.length))∧Tr.getV tm 39 = .c (.int .i64 (.ofNat k))∧Tr.getV tm 44 = .c (.sl b6 o6 a.length c6)∧Tr.getV tm 45 = .c (.int .i64 (.ofNat a.length))∧Tr.getV tm 46 = .c (.int .i64 (.ofNat t))∧Tr.getV tm 11 = .c lv∧Tr.getV tm 50 = .c P1∧Tr.getV tm 51 = .c (.int .i64 (.ofNat r.length))∧Tr.getV tm 52 = .c (.int .i64 (.ofNat l))
        ∧ OwnL σ5.h lv l (cpF r) 5 84 σ4.nxt σ5.nxt∧Fr σ4 σ5) r.length ?_ ?_) ?_
      ·refine ⟨0,.nils,by omega,by omega,?_⟩
       simp (maxSteps:=9^9) (disch:=first|assumption|decide|omega) only [go_sem,z3,t2,t3,t8,t37,t38,t39,t44,t45,t46,true_and]
       exact ⟨.nil,Fr.refl hf4.wf⟩
      ·rintro q tm σ5 ⟨l,lv,rfl,hll,t2,t3,t8,t37,t38,t39,t44,t45,t46,t11,t50,t51,t52,hO5,hf5⟩
       have hle5:=hf5.le
       simp (maxSteps:=9^9) (disch:=first|assumption|decide|omega) only [go_sem,z3,t2,t3,t8,t37,t38,t39,t44,t45,t46,t11,t50,t51,t52,lt_ofNat]
       refine ifV_dec (fun hltl=>?_) (fun hltl=>?_)
       ·obtain ⟨b7,o7,c7,rfl,-,hld7⟩:=HLp.pos hP1 (by omega)
        have hld7:=((hF.trans (hf.trans hf4)).trans hf5).ld hW (hld7 l hltl)
        unfold prtB at hld7
        have hfit3:=hfit2 l hlt hltt hltl
        simp (maxSteps:=9^9) (disch:=first|assumption|decide|omega) only [go_sem,z3,t2,t3,t8,t37,t38,t39,t44,t45,t46,t11,t50,t51,t52,hld7]
        refine CallX.st (Fr σ5) (by have hFr:=Fr.refl hf5.wf;exact fr) fun hF6=>?_
        refine (clean_x hF6.wf _ hfit3).mono ?_
        rintro _ σ6 ⟨rfl,hf6⟩
        unfold rV
        have hF56:=hF6.trans hf6
        have hle6:σ5.nxt+1≤σ6.nxt:=hf6.le
        have q9:σ6.h σ5.nxt=some ⟨[.int .i64 (ix r l).k,.bool (ix r l).b,.bool (ix r l).a.n,.str (ix r l).a.s,.str (ix r l).a.d],none⟩:=hf6.get hF6.wf (hset_get _ _ _)
        have hlk:=hO5.kn
        have hf46:=hf5.trans hF56
        rcases hO5.cases with ⟨rfl,rfl⟩|⟨hl0,b8,rfl,k1,k2,k3⟩
        ·simp (maxSteps:=9^9) (disch:=first|assumption|decide|omega) only [go_sem,z3,t2,t3,t8,t37,t38,t39,t44,t45,t46,t11,t50,t51,t52,sto_blk q9]
         refine ⟨r.length - 1,by omega,1,_,rfl,by omega,rfl,rfl,OwnL.of (n:=0) (by rw [hset_get];rfl) (by omega) (by omega),fr⟩
        ·have k1':=hF56.get hf5.wf k1
         have hrl:=cel_lenC (n:=l) (G:=cpF r) (e:=5) fun _=>rfl
         have hrt:=cel_take (n:=l) (G:=cpF r) (e:=5) fun _=>rfl
         simp (maxSteps:=9^9) (disch:=first|assumption|decide|omega) only [go_sem,z3,t2,t3,t8,t37,t38,t39,t44,t45,t46,t11,t50,t51,t52,sto_blk q9,k1']
         refine ⟨r.length - (l+1),by omega,l+1,_,rfl,by omega,rfl,rfl,OwnL.of (by rw [hset_get,hrt];rfl) (by omega) (by omega),fr⟩
       ·have:l=r.length:=by omega
        subst this
        simp (maxSteps:=9^9) (disch:=first|assumption|decide|omega) only [go_sem,z3,true_and]
        exact ⟨lv,t2,t3,t8,t37,t38,t39,t44,t45,t46,t11,hO5,hf5⟩
      ·rintro _ tm σ5 ⟨rfl,lv,t2,t3,t8,t37,t38,t39,t44,t45,t46,t11,hO5,hf5⟩
       have hle5:=hf5.le
       have hlk:=hO5.kn
       have htk:=hU.kn
       have q8':=hf5.get hf4.wf q8
       have hf45:=hf4.trans hf5
       have hx:RTi a lv (fun b=>σ4.nxt≤b∧b<σ5.nxt) σ5.h t:=by
        rw [hRT]
        exact hO5.parts fun b h1 h2=>⟨h1,h2⟩
       rcases hU.cases with ⟨rfl,rfl⟩|⟨ht0,b8,rfl,k1,k2,k3⟩
       ·simp (maxSteps:=9^9) (disch:=first|assumption|decide|omega) only [go_sem,z3,t2,t3,t8,t37,t38,t39,t44,t45,t46,t11,ld_blk q8',q8',hlk]
        refine ⟨a.length - 1,by omega,1,_,updF U 0 lv,rfl,by omega,rfl,rfl,?_,fr,by omega⟩
        refine hU.push (rk_T a) hx (fun b _ hb=>hf5.old b hb) hle5 (by omega) (by omega) (by omega) (cells:=[lv]) rfl ?_ fun b h1 h2 _=>?_
        ·rw [hset_ne _ _ _ _ (by omega),hset_get]
        ·rw [hset_ne _ _ _ _ (by omega),hset_ne _ _ _ _ (by omega),hset_ne _ _ _ _ (by omega)]
       ·have k1':=hf5.get hf4.wf k1
        have hrl:=cel_lenC (n:=t) (G:=fun j=>[U j]) (e:=1) fun _=>rfl
        have hrt:=cel_take (n:=t) (G:=fun j=>[U j]) (e:=1) fun _=>rfl
        simp (maxSteps:=9^9) (disch:=first|assumption|decide|omega) only [go_sem,z3,t2,t3,t8,t37,t38,t39,t44,t45,t46,t11,ld_blk q8',q8',hlk,k1']
        refine ⟨a.length - (t+1),by omega,t+1,_,updF U t lv,rfl,by omega,rfl,rfl,?_,fr,by omega⟩
        refine hU.push (rk_T a) hx (fun b _ hb=>hf5.old b hb) hle5 (by omega) (by omega) (by omega) rfl ?_ fun b h1 h2 h3=>?_
        ·rw [hset_ne _ _ _ _ (by omega),hset_get,hrt]
        ·have h3:=h3 _ _ _ rfl
         rw [hset_ne _ _ _ _ (by omega),hset_ne _ _ _ _ (by omega),hdel_ne _ _ _ (by omega),hset_ne _ _ _ _ (by omega)]
     ·have:t=a.length:=by omega
      subst this
      simp (maxSteps:=9^9) (disch:=first|assumption|decide|omega) only [go_sem,z3,true_and]
      exact ⟨tv,U,t2,t3,t8,t37,t38,t39,q8,hU,hf4,hn4⟩
    ·rintro _ tm σ4 ⟨rfl,tv,U,t2,t3,t8,t37,t38,t39,q8,hU,hf4,hn4⟩
     have hle4:=hf4.le
     have htk:=hU.kn
     have q3':=hf4.get hf.wf q3
     have hak:=hN.kn
     have hx:RAi e.a tv (fun b=>σ'.nxt≤b∧b<σ4.nxt) σ4.h k:=by
      rw [hRA]
      exact hU.tiers.keep (fun _ _=>rfl) fun b hb=>⟨by omega,hb.2⟩
     have hf4':=hf.trans hf4
     rcases hN.cases with ⟨rfl,rfl⟩|⟨hk0,b6,rfl,k1,k2,k3⟩
     ·simp (maxSteps:=9^9) (disch:=first|assumption|decide|omega) only [go_sem,z3,t2,t3,t8,t37,t38,t39,ld_blk q8,htk,ld_blk q3',q3']
      refine ⟨e.a.length - 1,by omega,1,_,updF T 0 tv,rfl,by omega,rfl,rfl,?_,?_,fr,by omega⟩
      ·exact hO.mono (fun b h1 h2=>by rw [hset_ne _ _ _ _ (by omega),hset_ne _ _ _ _ (by omega),hset_ne _ _ _ _ (by omega),hf4.old b (by omega)]) (Nat.le_refl _) (Nat.le_refl _)
      ·refine hN.push (rk_A e.a) hx (fun b _ hb=>hf4.old b hb) hle4 (by omega) (by omega) hn2 (cells:=[tv]) rfl ?_ fun b h1 h2 _=>?_
       ·rw [hset_ne _ _ _ _ (by omega),hset_get]
       ·rw [hset_ne _ _ _ _ (by omega),hset_ne _ _ _ _ (by omega),hset_ne _ _ _ _ (by omega)]
     ·have k1':=hf4.get hf.wf k1
      have hrl:=cel_lenC (n:=k) (G:=fun j=>[T j]) (e:=1) fun _=>rfl
      have hrt:=cel_take (n:=k) (G:=fun j=>[T j]) (e:=1) fun _=>rfl
      simp (maxSteps:=9^9) (disch:=first|assumption|decide|omega) only [go_sem,z3,t2,t3,t8,t37,t38,t39,ld_blk q8,htk,ld_blk q3',q3',k1']
      refine ⟨e.a.length - (k+1),by omega,k+1,_,updF T k tv,rfl,by omega,rfl,rfl,?_,?_,fr,by omega⟩
      ·exact hO.mono (fun b h1 h2=>by rw [hset_ne _ _ _ _ (by omega),hset_ne _ _ _ _ (by omega),hdel_ne _ _ _ (by omega),hset_ne _ _ _ _ (by omega),hf4.old b (by omega)]) (Nat.le_refl _) (Nat.le_refl _)
      ·refine hN.push (rk_A e.a) hx (fun b _ hb=>hf4.old b hb) hle4 (by omega) (by omega) hn2 rfl ?_ fun b h1 h2 h3=>?_
       ·rw [hset_ne _ _ _ _ (by omega),hset_get,hrt]
       ·have h3:=h3 _ _ _ rfl
        rw [hset_ne _ _ _ _ (by omega),hset_ne _ _ _ _ (by omega),hdel_ne _ _ _ (by omega),hset_ne _ _ _ _ (by omega)]
   ·have:k=e.a.length:=by omega
    subst this
    simp (maxSteps:=9^9) (disch:=first|assumption|decide|omega) only [go_sem,z3,true_and]
    exact ⟨av,T,t2,t3,q3,hO,hN,hf,hn2⟩
  ·rintro _ tm σ3 ⟨rfl,av,T,t2,t3,q3,hO3,hN,hf,hn2⟩
   have hle3:=hf.le
   have hF3:=hF.trans hf
   have hak:=hN.kn
   have q1:=hf.get hF.wf q1
   simp (maxSteps:=9^9) (disch:=first|assumption|decide|omega) only [go_sem,z3,t2,t3,ld_blk q3,hok,hak,sto_blk q1]
   refine ⟨⟨_,_,rfl,?_,?_⟩,fr⟩
   ·exact (hO3.claims (p:=fun b=>σ1.nxt+1≤b∧b<σ2.nxt) fun b h1 h2=>⟨h1,h2⟩).keep (fun b hb=>hset_ne _ _ _ _ (by omega)) fun b hb=>⟨by omega,by show b<σ3.nxt;omega⟩
   ·exact hN.agrs.keep (fun b hb=>hset_ne _ _ _ _ (by omega)) fun b hb=>⟨by omega,hb.2⟩
end
theorem updG_self (G:Nat→List B) (n:Nat):updG G n (G n)=G:=by
 funext i
 unfold updG
 split
 ·next e=>rw [e]
 ·rfl
theorem cel_succ (n:Nat) (G:Nat→List B):celR (n+1) G=celR n G ++ G n:=by rw [cel_snoc,updG_self]
theorem ld_blkE {h:Tr Bk} {b o e:Nat} {l:List B} (hl:ld h b o e true=some (.agg l)) : ∃ k,h b=some k∧k.rd=true∧(k.cells.drop o).take e=l∧l.length=e∧l.all B.kn=true:=by
 unfold ld at hl
 cases hk:h b with
 | none=>rw [hk] at hl;cases hl
 | some k =>
  rw [hk] at hl
  dsimp only at hl
  cases hr:k.rd with
  | false=>rw [hr] at hl;cases hl
  | true =>
   rw [hr] at hl
   simp only [cond_true] at hl
   unfold rdC at hl
   dsimp only at hl
   cases hx:(Nat.beq ((k.cells.drop o).take e).length e && ((k.cells.drop o).take e).all B.kn) with
   | false=>rw [hx] at hl;cases hl
   | true =>
    rw [hx] at hl
    cases hl
    rw [Bool.and_eq_true] at hx
    exact ⟨k,rfl,hr,rfl,Nat.eq_of_beq_eq_true hx.1,hx.2⟩
theorem cells_of {h:Tr Bk} {b o e:Nat} {G:Nat→List B} : ∀ {n:Nat},0<n→(∀ i,i<n→ld h b (o+i*e) e true=some (.agg (G i)))→∃ k,h b=some k∧k.rd=true∧(k.cells.drop o).take (n*e)=celR n G∧(celR n G).length=n*e∧(celR n G).all B.kn=true
 | 0,h0,_=>by omega
 | n+1,_,hl=>by
  obtain ⟨k,h1,h2,h3,h4,h5⟩:=ld_blkE (hl n (by omega))
  by_cases hn:n=0
  ·subst hn
   rw [Nat.zero_mul,Nat.add_zero] at h3
   rw [cel_succ]
   refine ⟨k,h1,h2,?_,?_,?_⟩
   ·rw [Nat.zero_add,Nat.one_mul,h3];rfl
   ·show ([] ++ G 0).length=_;simp [h4]
   ·show ([] ++ G 0).all B.kn=_;simpa using h5
  ·obtain ⟨k',h1',-,h3',h4',h5'⟩:=cells_of (n:=n) (by omega) fun i hi=>hl i (by omega)
   rw [h1] at h1'
   cases h1'
   rw [cel_succ]
   refine ⟨k,h1,h2,?_,?_,?_⟩
   ·rw [Nat.succ_mul,List.take_add,h3',List.drop_drop,h3]
   ·rw [List.length_append,h4',h4,Nat.succ_mul]
   ·rw [List.all_append,h5',h5];rfl
theorem appX_hl {p:Nat→Prop} {σ:St} {e n:Nat} {v:B} {G:Nat→List B} (hl:HLp p σ.h e v n G) (ty bytes:Nat) (s:V):appX ty e bytes s (.c v) σ=appB ty e bytes s n (celR n G) σ:=by
 rcases hl with ⟨rfl,rfl⟩|⟨b,o,c,rfl,-,hld⟩
 ·rfl
 ·by_cases hn:n=0
  ·subst hn;rfl
  ·obtain ⟨k,h1,h2,h3,h4,h5⟩:=cells_of (by omega) hld
   rw [appX_sl _ _ _ _ _ _ _ _ _ (by omega),h1]
   dsimp only
   rw [h2,h3,h4,h5,beq_s];rfl
set_option maxRecDepth 10000 in
theorem clonelegs_x {σ:St} (hW:WF σ) {p:Nat→Prop} {v:B} (l:List Ins.Lg) (hL:HLegs p σ.h v l) (hl:l.length≤1000) :
  CallX EN 130 [.c v] σ fun r σ'=>(∃ v',r = .c v'∧HLegs (fun b=>σ.nxt≤b∧b<σ'.nxt) σ'.h v' l)∧Fr σ σ':=by
 refine call_fn (O_slices_Clone__api_Leg_api_Leg _ _) F_slices_Clone__api_Leg_api_Leg ?_
 unfold a_slices_Clone__api_Leg_api_Leg
 have hF:Fr σ ⟨hset σ.h σ.nxt ⟨[],none⟩,σ.nxt+1⟩:=fr
 have hap:=fun s=>appX_hl (σ:=⟨hset σ.h σ.nxt ⟨[],none⟩,σ.nxt+1⟩) (HLp.fr hW hF hL) 90 16 s
 rcases hL with ⟨h0,rfl⟩|⟨b,o,c,rfl,h1,h2⟩
 ·simp (maxSteps:=9^9) (disch:=first|assumption|decide|omega) only [go_sem,z3]
  exact ⟨⟨_,rfl,.inl ⟨h0,rfl⟩⟩,Fr.refl hW⟩
 ·by_cases h0:l.length=0
  ·rw [h0] at hap
   simp (maxSteps:=9^9) (disch:=first|assumption|decide|omega) only [go_sem,z3,hap,h0]
   refine ⟨⟨_,rfl,.inr ⟨σ.nxt,0,.ex 0,?_,fun h=>by omega,fun i hi=>by omega⟩⟩,hF⟩
   rw [h0]
  ·simp (maxSteps:=9^9) (disch:=first|assumption|decide|omega) only [go_sem,z3,hap]
   refine ⟨⟨_,rfl,?_⟩,fr⟩
   exact cel_hlp _ (hset_get _ _ _) (by rw [rdo_s _ _ (by omega)]) ⟨by omega,Nat.lt_succ_self _⟩ (fun _=>rfl) (by decide) fun _ _=>rfl
def RE (el:List Est) (C A:Nat→B) (p:Nat→Prop) (h:Tr Bk) (j:Nat):Prop:=HClaims p h (C j) ((ix el j).c.map clCl)∧HAgrs p h (A j) ((ix el j).a.map clAg)
def ceF (m:Nat→Rat) (C A:Nat→B):Nat→List B:=fun j=>[.bool (rn (m j)),.str (rs (m j)),.str (rd (m j)),C j,A j]
def RD (dl:List Dbt) (L:Nat→B) (p:Nat→Prop) (h:Tr Bk) (j:Nat):Prop:=HLegs p h (L j) (ix dl j).l
def dbF (dl:List Dbt) (L:Nat→B):Nat→List B:=fun j=>[.bool (rn (ix dl j).w.q),.str (rs (ix dl j).w.q),.str (rd (ix dl j).w.q),L j]
theorem qk_E (el:List Est) (C A:Nat→B) (j:Nat):QK (RE el C A) j:=fun _ _ _ _ hp hk hq=>⟨HLp.keep hp.1 hk hq,hp.2.keep hk hq⟩
theorem qk_D (dl:List Dbt) (L:Nat→B) (j:Nat):QK (RD dl L) j:=fun _ _ _ _ hp hk hq=>HLp.keep hp hk hq
def estM (el:List Est):Nat→Rat:=fun j=>(ix el j).m.q
section
variable {h h' h1:Tr Bk} {v x y:B} {n ty lo hi hi1 nx n' : Nat} {m:Nat→Rat} {C A L:Nat→B} {el:List Est} {dl:List Dbt}
theorem NL.pushE (ho:NL (RE el C A) h v n (ceF m C A) 5 ty lo hi) (hx:HClaims (fun b=>hi≤b∧b<hi1) h1 x ((ix el n).c.map clCl)) (hy:HAgrs (fun b=>hi≤b∧b<hi1) h1 y ((ix el n).a.map clAg)) (hh : ∀ b,lo≤b→b<hi→h1 b=h b) (h2:hi≤hi1) (h3:hi1≤nx) (h4:nx<n') (h5:lo≤hi) {cells:List B} (hc:cells=celR n (ceF m C A) ++ [.bool (rn (m n)),.str (rs (m n)),.str (rd (m n)),x,y])
  (hb:h' nx=some ⟨cells,some (5,ty)⟩) (hk : ∀ b,lo≤b→b<hi1→(∀ c m k,v = .sl c 0 m k→b≠c)→h' b=h1 b):NL (RE el (updF C n x) (updF A n y)) h' (.sl nx 0 (n+1) .opn) (n+1) (ceF m (updF C n x) (updF A n y)) 5 ty lo n':=by
 have hg : ∀ j,j<n→ceF m C A j=ceF m (updF C n x) (updF A n y) j:=fun j hj=>by unfold ceF;rw [updF_ne _ _ _ _ (by omega),updF_ne _ _ _ _ (by omega)]
 have ho' : NL (RE el (updF C n x) (updF A n y)) h v n (ceF m (updF C n x) (updF A n y)) 5 ty lo hi:=NL.congr ho (fun j hj p h hq=>by unfold RE;rw [updF_ne _ _ _ _ (by omega),updF_ne _ _ _ _ (by omega)];exact hq) hg
 refine NL.push ho' (fun j _=>qk_E el _ _ j) (hi1:=hi1) (h1:=h1) (x:=[.bool (rn (m n)),.str (rs (m n)),.str (rd (m n)),x,y]) (by unfold RE;rw [updF_same,updF_same];exact ⟨hx,hy⟩) hh h2 h3 h4 h5 ?_ hb hk (fun _ _=>rfl) (by unfold ceF;rw [updF_same,updF_same])
 rw [hc,cel_congr hg]
theorem NL.pushD (ho:NL (RD dl L) h v n (dbF dl L) 4 ty lo hi) (hx:HLegs (fun b=>hi≤b∧b<hi1) h1 x (ix dl n).l) (hh : ∀ b,lo≤b→b<hi→h1 b=h b) (h2:hi≤hi1) (h3:hi1≤nx) (h4:nx<n') (h5:lo≤hi) {cells:List B} (hc:cells=celR n (dbF dl L) ++ [.bool (rn (ix dl n).w.q),.str (rs (ix dl n).w.q),.str (rd (ix dl n).w.q),x])
  (hb:h' nx=some ⟨cells,some (4,ty)⟩) (hk : ∀ b,lo≤b→b<hi1→(∀ c m k,v = .sl c 0 m k→b≠c)→h' b=h1 b):NL (RD dl (updF L n x)) h' (.sl nx 0 (n+1) .opn) (n+1) (dbF dl (updF L n x)) 4 ty lo n':=by
 have hg : ∀ j,j<n→dbF dl L j=dbF dl (updF L n x) j:=fun j hj=>by unfold dbF;rw [updF_ne _ _ _ _ (by omega)]
 have ho' : NL (RD dl (updF L n x)) h v n (dbF dl (updF L n x)) 4 ty lo hi:=NL.congr ho (fun j hj p h hq=>by unfold RD;rw [updF_ne _ _ _ _ (by omega)];exact hq) hg
 refine NL.push ho' (fun j _=>qk_D dl _ j) (hi1:=hi1) (h1:=h1) (x:=[.bool (rn (ix dl n).w.q),.str (rs (ix dl n).w.q),.str (rd (ix dl n).w.q),x]) (by unfold RD;rw [updF_same];exact hx) hh h2 h3 h4 h5 ?_ hb hk (fun _ _=>rfl) (by unfold dbF;rw [updF_same])
 rw [hc,cel_congr hg]
theorem NL.dbts (ho:NL (RD dl L) h v dl.length (dbF dl L) 4 ty lo hi):HDbts (fun b=>lo≤b∧b<hi) h v (dl.map clDb):=by
 have hl:(dl.map clDb).length=dl.length:=List.length_map ..
 refine ⟨L,?_,fun j hj=>?_⟩
 ·rw [hl]
  refine (OwnL.hlp (p:=fun b=>lo≤b∧b<hi) ho.own (fun _=>rfl) (by decide) (fun j hj=>?_) fun b h1 h2=>⟨h1,h2⟩).congr fun j hj=>by rw [ix_map _ _ hj];rfl
  have hk:(L j).kn=true:=HLp.kn (ho.el (fun j _=>qk_D dl L j) hj)
  unfold dbF
  simp only [List.all_cons,List.all_nil,hk,kn_bool,kn_str,Bool.and_self]
 ·rw [hl] at hj
  rw [ix_map _ _ hj]
  exact ho.el (fun j _=>qk_D dl L j) hj
end
theorem HDbts.el {p:Nat→Prop} {h:Tr Bk} {v:B} {dl:List Dbt} (hD:HDbts p h v dl) {i:Nat} (hi:i<dl.length) : ∃ b o c,v = .sl b o dl.length c∧∃ T:B,ld h b (o+i*4) 4 true=some (.agg [.bool (ix dl i).w.n,.str (ix dl i).w.s,.str (ix dl i).w.d,T])∧HLegs p h T (ix dl i).l:=by
 obtain ⟨L,h1,h2⟩:=hD
 obtain ⟨b,o,c,e,-,hld⟩:=h1.pos (by omega)
 exact ⟨b,o,c,e,L i,hld i hi,h2 i hi⟩
theorem HDbts.len {p:Nat→Prop} {h:Tr Bk} {v:B} {dl:List Dbt} (hD:HDbts p h v dl):lenV (.c v)=some (.c (.int .i64 (.ofNat dl.length))):=hD.choose_spec.1.len
def CpG (g:Grp) (m:Nat→Rat) (lo:Nat) (h:Tr Bk) (hi:Nat) (ov dv:B):Prop:=∃ C A mid,NL (RE g.e C A) h ov g.e.length (ceF m C A) 5 76 lo mid∧HDbts (fun b=>mid≤b∧b<hi) h dv (g.d.map clDb)∧lo≤mid∧mid≤hi
set_option maxRecDepth 10000 in
theorem copygroup_x {σ:St} (hW:WF σ) {p:Nat→Prop} {ev dv:B} (g:Grp) (hg:HGrp p σ.h ev dv g) (hs:SmallG 1000000 g) (hl:LenG 1000 g) :
  CallX EN 76 [.agg [ev,dv]] σ fun r σ'=>(∃ ov dv',r = .agg [ov,dv']∧CpG g (estM g.e) σ.nxt σ'.h σ'.nxt ov dv')∧Fr σ σ':=by
 refine call_fn (O_defaultcost_copyGroup _ _) F_defaultcost_copyGroup ?_
 unfold a_defaultcost_copyGroup
 have hek:=hg.e.kn
 have hdk:=hg.d.kn
 have hlenE:=hg.e.len
 have hlenD:=hg.d.len
 have hne:=hl.n
 have hnd:=hl.d
 simp (maxSteps:=9^9) (disch:=first|assumption|decide|omega) only [go_sem,z3,hek,hdk,hlenE]
 refine RunX.mono (Q:=fun ex tm σ'=>ex = .exit 0∧∃ ov C A,Tr.getV tm 1 = .c (.ptr σ.nxt 0)∧Tr.getV tm 2 = .c (.ptr (σ.nxt+1) 0)∧Tr.getV tm 3 = .c (.ptr (σ.nxt+1+1) 0)∧σ'.h σ.nxt=some ⟨[ev,dv],none⟩∧σ'.h (σ.nxt+1)=some ⟨[.nils,.nils],none⟩∧σ'.h (σ.nxt+1+1)=some ⟨[ov,.nils],none⟩
   ∧ NL (RE g.e C A) σ'.h ov g.e.length (ceF (estM g.e) C A) 5 76 (σ.nxt+1+1+1) σ'.nxt∧Fr σ σ'∧σ.nxt+1+1+1≤σ'.nxt)
  (run_loop (fun q tm σ'=>∃ i ov C A,q=g.e.length - i∧i≤g.e.length∧Tr.getV tm 1 = .c (.ptr σ.nxt 0)∧Tr.getV tm 2 = .c (.ptr (σ.nxt+1) 0)∧Tr.getV tm 3 = .c (.ptr (σ.nxt+1+1) 0)∧Tr.getV tm 9 = .c ev∧Tr.getV tm 10 = .c (.int .i64 (.ofNat g.e.length))∧Tr.getV tm 11 = .c (.int .i64 (.ofNat i))
   ∧ σ'.h σ.nxt=some ⟨[ev,dv],none⟩∧σ'.h (σ.nxt+1)=some ⟨[.nils,.nils],none⟩∧σ'.h (σ.nxt+1+1)=some ⟨[ov,.nils],none⟩∧NL (RE g.e C A) σ'.h ov i (ceF (estM g.e) C A) 5 76 (σ.nxt+1+1+1) σ'.nxt∧Fr σ σ'∧σ.nxt+1+1+1≤σ'.nxt) g.e.length ?_ ?_) ?_
 ·refine ⟨0,.nils,fun _=>.nils,fun _=>.nils,by omega,by omega,?_⟩
  simp (maxSteps:=9^9) (disch:=first|assumption|decide|omega) only [go_sem,z3,true_and]
  exact ⟨NL.nil,fr,by omega⟩
 ·rintro q tm σ' ⟨i,ov,C,A,rfl,hi,t1,t2,t3,t9,t10,t11,q0,q1,q2,hN,hf,hnx⟩
  have hle:=hf.le
  simp (maxSteps:=9^9) (disch:=first|assumption|decide|omega) only [go_sem,z3,t1,t2,t3,t9,t10,t11,lt_ofNat]
  refine ifV_dec (fun hlt=>?_) (fun hlt=>?_)
  ·obtain ⟨b5,o5,c5,rfl,C1,A1,hld5,-,hC,hA⟩:=hg.e.at hlt
   have hld5:=hf.ld hW hld5
   have hCk:=HLp.kn hC
   have hAk:=hA.kn
   have hok:=hN.own.kn
   have hse:=hs.e i hlt
   have hle1:=hl.e i hlt
   have hm:estM g.e i=(ix g.e i).m.q:=rfl
   simp (maxSteps:=9^9) (disch:=first|assumption|decide|omega) only [go_sem,z3,t1,t2,t3,t9,t10,t11,hld5,hCk,hAk,ld_blk q2,hok]
   refine CallX.st (Fr σ') (by have hFr:=Fr.refl hf.wf;exact fr) fun hF3=>?_
   have hf3:=hf.trans hF3
   refine (copyest_x hF3.wf (ix g.e i) hse hle1 (HLp.fr hW hf3 hC) (HAgrs.fr hW hf3 hA)).mono ?_
   rintro _ σ4 ⟨⟨C2,A2,rfl,hC2,hA2⟩,hf4⟩
   rw [← hm]
   have hF4:=hF3.trans hf4
   have hle4:σ'.nxt+1≤σ4.nxt:=hf4.le
   have q2':=hF4.get hf.wf q2
   have hC2k:=HLp.kn hC2
   have hA2k:=hA2.kn
   have q0':=hF4.get hf.wf q0
   have q1':=hF4.get hf.wf q1
   have hC3:HClaims (fun b=>σ'.nxt≤b∧b<σ4.nxt) σ4.h C2 ((ix g.e i).c.map clCl):=HLp.keep hC2 (fun _ _=>rfl) fun b hb=>⟨Nat.le_trans (Nat.le_succ _) hb.1,hb.2⟩
   have hA3:HAgrs (fun b=>σ'.nxt≤b∧b<σ4.nxt) σ4.h A2 ((ix g.e i).a.map clAg):=hA2.keep (fun _ _=>rfl) fun b hb=>⟨Nat.le_trans (Nat.le_succ _) hb.1,hb.2⟩
   have hf04:=hf.trans hF4
   rcases hN.own.cases with ⟨rfl,rfl⟩|⟨hi0,b6,rfl,k1,k2,k3⟩
   ·simp (maxSteps:=9^9) (disch:=first|assumption|decide|omega) only [go_sem,z3,t1,t2,t3,t9,t10,t11,hC2k,hA2k,ld_blk q2',q2']
    refine ⟨g.e.length - 1,by omega,1,_,updF C 0 C2,updF A 0 A2,rfl,by omega,rfl,q0',q1',rfl,?_,fr,by omega⟩
    refine hN.pushE hC3 hA3 (fun b _ hb=>hF4.old b hb) (by omega) (by omega) (by omega) hnx (cells:=[.bool (rn (estM g.e 0)),.str (rs (estM g.e 0)),.str (rd (estM g.e 0)),C2,A2]) rfl ?_ fun b h1 h2 _=>?_
    ·rw [hset_ne _ _ _ _ (by omega),hset_get]
    ·rw [hset_ne _ _ _ _ (by omega),hset_ne _ _ _ _ (by omega),hset_ne _ _ _ _ (by omega)]
   ·have k1':=hF4.get hf.wf k1
    have hrl:=cel_lenC (n:=i) (G:=ceF (estM g.e) C A) (e:=5) fun _=>rfl
    have hrt:=cel_take (n:=i) (G:=ceF (estM g.e) C A) (e:=5) fun _=>rfl
    simp (maxSteps:=9^9) (disch:=first|assumption|decide|omega) only [go_sem,z3,t1,t2,t3,t9,t10,t11,hC2k,hA2k,ld_blk q2',q2',k1']
    refine ⟨g.e.length - (i+1),by omega,i+1,_,updF C i C2,updF A i A2,rfl,by omega,rfl,q0',q1',rfl,?_,fr,by omega⟩
    refine hN.pushE hC3 hA3 (fun b _ hb=>hF4.old b hb) (by omega) (by omega) (by omega) hnx rfl ?_ fun b h1 h2 h3=>?_
    ·rw [hset_ne _ _ _ _ (by omega),hset_get,hrt]
    ·have h3:=h3 _ _ _ rfl
     rw [hset_ne _ _ _ _ (by omega),hset_ne _ _ _ _ (by omega),hdel_ne _ _ _ (by omega),hset_ne _ _ _ _ (by omega)]
  ·have:i=g.e.length:=by omega
   subst this
   simp (maxSteps:=9^9) (disch:=first|assumption|decide|omega) only [go_sem,z3,true_and]
   exact ⟨ov,C,A,t1,t2,t3,q0,q1,q2,hN,hf,hnx⟩
 ·rintro _ tm σ2 ⟨rfl,ov,C,A,t1,t2,t3,q0,q1,q2,hN,hf,hnx⟩
  have hle2:=hf.le
  have hok:=hN.own.kn
  simp (maxSteps:=9^9) (disch:=first|assumption|decide|omega) only [go_sem,z3,t1,t2,t3,ld_blk q0,hek,hdk,hlenD]
  refine RunX.mono (Q:=fun ex tm σ'=>ex = .exit 2∧∃ dv' L,Tr.getV tm 2 = .c (.ptr (σ.nxt+1) 0)∧Tr.getV tm 3 = .c (.ptr (σ.nxt+1+1) 0)∧σ'.h (σ.nxt+1)=some ⟨[.nils,.nils],none⟩∧σ'.h (σ.nxt+1+1)=some ⟨[ov,dv'],none⟩
    ∧ NL (RE g.e C A) σ'.h ov g.e.length (ceF (estM g.e) C A) 5 76 (σ.nxt+1+1+1) σ2.nxt∧NL (RD g.d L) σ'.h dv' g.d.length (dbF g.d L) 4 113 σ2.nxt σ'.nxt∧Fr σ σ'∧σ2.nxt≤σ'.nxt)
   (run_loop (fun q tm σ'=>∃ i dv' L,q=g.d.length - i∧i≤g.d.length∧Tr.getV tm 2 = .c (.ptr (σ.nxt+1) 0)∧Tr.getV tm 3 = .c (.ptr (σ.nxt+1+1) 0)∧Tr.getV tm 24 = .c dv∧Tr.getV tm 25 = .c (.int .i64 (.ofNat g.d.length))∧Tr.getV tm 26 = .c (.int .i64 (.ofNat i))
    ∧ σ'.h (σ.nxt+1)=some ⟨[.nils,.nils],none⟩∧σ'.h (σ.nxt+1+1)=some ⟨[ov,dv'],none⟩∧NL (RE g.e C A) σ'.h ov g.e.length (ceF (estM g.e) C A) 5 76 (σ.nxt+1+1+1) σ2.nxt∧NL (RD g.d L) σ'.h dv' i (dbF g.d L) 4 113 σ2.nxt σ'.nxt∧Fr σ σ'∧σ2.nxt≤σ'.nxt) g.d.length ?_ ?_) ?_
  ·refine ⟨0,.nils,fun _=>.nils,by omega,by omega,?_⟩
   simp (maxSteps:=9^9) (disch:=first|assumption|decide|omega) only [go_sem,z3,t2,t3,true_and]
   exact ⟨q1,q2,hN,NL.nil,hf,by omega⟩
  ·rintro q tm σ' ⟨i,dv',L,rfl,hi,t2,t3,t24,t25,t26,q1,q2,hN,hD,hf,hn2⟩
   have hle:=hf.le
   simp (maxSteps:=9^9) (disch:=first|assumption|decide|omega) only [go_sem,z3,t2,t3,t24,t25,t26,lt_ofNat]
   refine ifV_dec (fun hlt=>?_) (fun hlt=>?_)
   ·obtain ⟨b5,o5,c5,rfl,T1,hld5,hT⟩:=hg.d.el hlt
    have hld5:=hf.ld hW hld5
    have hTk:=HLp.kn hT
    have hdk':=hD.own.kn
    have hsw:=hs.w i hlt
    have hll:=hl.l i hlt
    simp (maxSteps:=9^9) (disch:=first|assumption|decide|omega) only [go_sem,z3,t2,t3,t24,t25,t26,hld5,hTk,ld_blk q2,hok,hdk']
    refine CallX.st (Fr σ') (by have hFr:=Fr.refl hf.wf;exact fr) fun hF3=>?_
    refine (clean_x hF3.wf _ hsw).mono ?_
    rintro _ σ4 ⟨rfl,hf4⟩
    unfold rV
    have hF4:=hF3.trans hf4
    have hle4:σ'.nxt+1≤σ4.nxt:=hf4.le
    have q7:σ4.h σ'.nxt=some ⟨[.bool (ix g.d i).w.n,.str (ix g.d i).w.s,.str (ix g.d i).w.d,T1],none⟩:=hf4.get hF3.wf (hset_get _ _ _)
    have hf04:=hf.trans hF4
    have q2':=hF4.get hf.wf q2
    simp (maxSteps:=9^9) (disch:=first|assumption|decide|omega) only [go_sem,z3,t2,t3,t24,t25,t26,hTk,hok,hdk',ld_blk q7,ld_blk q2']
    refine (clonelegs_x hf4.wf (ix g.d i).l (HLp.fr hW hf04 hT) hll).mono ?_
    rintro _ σ5 ⟨⟨v',rfl,hV⟩,hf5⟩
    have hF5:=hF4.trans hf5
    have hle5:=hf5.le
    have hvk:=HLp.kn hV
    have q25:=hF5.get hf.wf q2
    have q15:=hF5.get hf.wf q1
    have q75:=hf5.get hf4.wf q7
    have hV5:HLegs (fun b=>σ'.nxt≤b∧b<σ5.nxt) σ5.h v' (ix g.d i).l:=HLp.keep hV (fun _ _=>rfl) fun b hb=>⟨by omega,hb.2⟩
    have hf05:=hf.trans hF5
    rcases hD.own.cases with ⟨rfl,rfl⟩|⟨hi0,b6,rfl,k1,k2,k3⟩
    ·simp (maxSteps:=9^9) (disch:=first|assumption|decide|omega) only [go_sem,z3,t2,t3,t24,t25,t26,hTk,hok,hvk,ld_blk q75,ld_blk q25,q25]
     refine ⟨g.d.length - 1,by omega,1,_,updF L 0 v',rfl,by omega,rfl,q15,rfl,?_,?_,fr,by omega⟩
     ·exact NL.mono hN (fun j _=>qk_E g.e C A j) (fun b h1 h2=>by rw [hset_ne _ _ _ _ (by omega),hset_ne _ _ _ _ (by omega),hset_ne _ _ _ _ (by omega),hF5.old b (by omega)]) (Nat.le_refl _)
     ·refine hD.pushD hV5 (fun b _ hb=>hF5.old b hb) (by omega) (by omega) (by omega) hn2 (cells:=[.bool (rn (ix g.d 0).w.q),.str (rs (ix g.d 0).w.q),.str (rd (ix g.d 0).w.q),v']) rfl ?_ fun b h1 h2 _=>?_
      ·rw [hset_ne _ _ _ _ (by omega),hset_get]
      ·rw [hset_ne _ _ _ _ (by omega),hset_ne _ _ _ _ (by omega),hset_ne _ _ _ _ (by omega)]
    ·have k1':=hF5.get hf.wf k1
     have hrl:=cel_lenC (n:=i) (G:=dbF g.d L) (e:=4) fun _=>rfl
     have hrt:=cel_take (n:=i) (G:=dbF g.d L) (e:=4) fun _=>rfl
     simp (maxSteps:=9^9) (disch:=first|assumption|decide|omega) only [go_sem,z3,t2,t3,t24,t25,t26,hTk,hok,hvk,ld_blk q75,ld_blk q25,q25,k1']
     refine ⟨g.d.length - (i+1),by omega,i+1,_,updF L i v',rfl,by omega,rfl,q15,rfl,?_,?_,fr,by omega⟩
     ·exact NL.mono hN (fun j _=>qk_E g.e C A j) (fun b h1 h2=>by rw [hset_ne _ _ _ _ (by omega),hset_ne _ _ _ _ (by omega),hdel_ne _ _ _ (by omega),hset_ne _ _ _ _ (by omega),hF5.old b (by omega)]) (Nat.le_refl _)
     ·refine hD.pushD hV5 (fun b _ hb=>hF5.old b hb) (by omega) (by omega) (by omega) hn2 rfl ?_ fun b h1 h2 h3=>?_
      ·rw [hset_ne _ _ _ _ (by omega),hset_get,hrt]
      ·have h3:=h3 _ _ _ rfl
       rw [hset_ne _ _ _ _ (by omega),hset_ne _ _ _ _ (by omega),hdel_ne _ _ _ (by omega),hset_ne _ _ _ _ (by omega)]
   ·have:i=g.d.length:=by omega
    subst this
    simp (maxSteps:=9^9) (disch:=first|assumption|decide|omega) only [go_sem,z3,true_and]
    exact ⟨dv',L,t2,t3,q1,q2,hN,hD,hf,hn2⟩
  ·rintro _ tm σ3 ⟨rfl,dv',L,t2,t3,q1,q2,hN,hD,hf,hn2⟩
   have hdk':=hD.own.kn
   have hle3:=hf.le
   simp (maxSteps:=9^9) (disch:=first|assumption|decide|omega) only [go_sem,z3,t2,t3,ld_blk q2,hok,hdk',sto_blk q1]
   refine ⟨⟨_,_,rfl,C,A,σ2.nxt,?_,?_,by omega,hn2⟩,fr⟩
   ·have:=NL.mono hN (fun j _=>qk_E g.e C A j) (h':=hset σ3.h (σ.nxt+1) ⟨[ov,dv'],none⟩) (fun b h1 h2=>hset_ne _ _ _ _ (by omega)) (Nat.le_refl _)
    exact NL.down this (fun j _=>qk_E g.e C A j) (by omega)
   ·exact hD.dbts.keep (fun b hb=>hset_ne _ _ _ _ (by omega)) fun b hb=>hb
section
variable {E:Env} [HasA E] {p:Nat→Prop} {σ:St} {ev dv:B} {g:Grp} {K:V→St→Prop}
theorem x_Check (hg:HGrp p σ.h ev dv g) (hs:SmallG 134217728 g):CallX E 50 [.agg [ev,dv]] σ K=K (.c (.int .i64 (chkG g))) σ :=
 callX_orc (by
  have h:=orcK_eq hg hs
  unfold orcA orcE orcP orcG orcH
  simp only [Nat.reduceEqDiff,reduceIte,h])
theorem x_rCheck (hg:HGrp p σ.h ev dv g) (hs:SmallG 134217728 g):CallX E 43 [.agg [ev,dv]] σ K=K (.c (.int .i64 (chkG g))) σ :=
 callX_orc (by
  have h:=orcK_eq hg hs
  unfold orcA orcE orcP orcG orcH
  simp only [Nat.reduceEqDiff,reduceIte,h])
end
end Go.Proofs.Xe
