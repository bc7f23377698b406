/- Rights with the checks, both sides, in the executor's words. -/
import Derived.Test.YtiaefgffeekfkaaGreatDoorZ35
set_option linter.unusedSimpArgs false
set_option linter.unusedVariables false
set_option maxHeartbeats 8000000
namespace Go.Proofs.Xe
open Go.RowKit Go.Proofs.Ins
theorem legsB_len {g:Grp} (hV:VG g) : ∀ d k,d≤g.d.length→k≤8→(legsB g.d d k).length≤d*8+k
 | 0,k,_,hk=>by
  unfold legsB
  simp only [List.take_zero,List.flatMap_nil,List.nil_append,List.length_take]; omega
 | d+1,k,h,hk=>by
  have h1:=legsB_len hV d (ix g.d d).l.length (by omega) (hV.nl d (by omega))
  have h2:=hV.nl d (by omega)
  have h3:legsB g.d (d+1) k=legsB g.d (d+1) 0 ++ (ix g.d (d+1)).l.take k:=by unfold legsB; simp
  rw [legsB_next' (by omega)] at h1
  rw [h3,List.length_append,List.length_take]
  omega
set_option maxRecDepth 10000 in
theorem rights_x {σ:St} (hW:WF σ) {p:Nat→Prop} {ev dv:B} (g:Grp) (hg:HGrp p σ.h ev dv g) (h0:chkG g=0) :
  CallX EN 51 [.agg [ev,dv]] σ fun r σ'=>∃ rv,r = .c rv∧RtL σ'.h rv (rightsL g) σ.nxt σ'.nxt∧Fr σ σ':=by
 refine call_fn (O_dividend_rights _ _) F_dividend_rights ?_
 unfold a_dividend_rights
 have hV:=chkG_valid h0
 have hek:=hg.e.kn
 have hdk:=hg.d.kn
 have hlenE:=hg.e.len
 have hlenD:=hg.d.choose_spec.1.len
 have hne:=hV.ne
 have hnd:=hV.nd
 simp (config:={ maxSteps:=1000000 }) (disch:=first | assumption | decide | omega) only [go_sem,z3,hek,hdk,hlenD]
 refine RunX.mono (Q:=fun e tm σ'=>e = .exit 0∧Tr.getV tm 1 = .c (.ptr σ.nxt 0)∧Tr.getV tm 3 = .c (.mp (σ.nxt+1))∧σ'.h σ.nxt=some ⟨[ev,dv],none⟩∧σ'.h (σ.nxt+1)=some ⟨lgC (legsB g.d g.d.length 0),some (0,0)⟩∧Fr σ σ'∧σ.nxt+1+1≤σ'.nxt)
  (run_loop (fun q tm σ'=>∃ d,q=g.d.length - d∧d≤g.d.length∧Tr.getV tm 1 = .c (.ptr σ.nxt 0)∧Tr.getV tm 3 = .c (.mp (σ.nxt+1))∧Tr.getV tm 18 = .c dv∧Tr.getV tm 19 = .c (.int .i64 (.ofNat g.d.length))∧Tr.getV tm 20 = .c (.int .i64 (.ofNat d))
   ∧ σ'.h σ.nxt=some ⟨[ev,dv],none⟩∧σ'.h (σ.nxt+1)=some ⟨lgC (legsB g.d d 0),some (0,0)⟩∧Fr σ σ'∧σ.nxt+1+1≤σ'.nxt) g.d.length ?_ ?_) ?_
 ·refine ⟨0,by omega,by omega,?_⟩
  simp (config:={ maxSteps:=1000000 }) (disch:=first | assumption | decide | omega) only [go_sem,z3,true_and]
  refine ⟨?_,?_,?_⟩
  ·rfl
  ·repeat (first | assumption | exact Fr.refl (by assumption) | exact Fr.up (by assumption) (by first | omega | (dsimp only; omega)) | exact Fr.up (Fr.refl (by assumption)) (by first | omega | (dsimp only; omega)) | refine Fr.set1 ?_ (by first | omega | (dsimp only; omega)) (by first | omega | (dsimp only; omega)) | refine Fr.del1 ?_ (by first | omega | (dsimp only; omega)) | refine Fr.newU ?_ (by first | omega | (dsimp only; omega)))
  ·omega
 ·rintro q tm σ' ⟨d,rfl,hd,t1,t3,t18,t19,t20,q0,q1,hf,hnx⟩
  have hle:=hf.le
  simp (config:={ maxSteps:=1000000 }) (disch:=first | assumption | decide | omega) only [go_sem,z3,t1,t3,t18,t19,t20,lt_ofNat]
  refine ifV_dec (fun hlt=>?_) (fun hlt=>?_)
  ·obtain ⟨bd,od,cd,rfl,T,hT4,-,hL⟩:=hg.d.at hlt
   have hT:=hf.ld hW hT4
   have hTk:=hL.kn
   have hlenL:=hL.len
   have hnl:=hV.nl d hlt
   simp (config:={ maxSteps:=1000000 }) (disch:=first | assumption | decide | omega) only [go_sem,z3,t1,t3,t18,t19,t20,hT,hTk,hlenL]
   refine run_loop (fun q tm σ3=>∃ j,q=(ix g.d d).l.length - j∧j≤(ix g.d d).l.length∧Tr.getV tm 1 = .c (.ptr σ.nxt 0)∧Tr.getV tm 3 = .c (.mp (σ.nxt+1))∧Tr.getV tm 18 = .c (.sl bd od g.d.length cd)∧Tr.getV tm 19 = .c (.int .i64 (.ofNat g.d.length))∧Tr.getV tm 20 = .c (.int .i64 (.ofNat d))
    ∧ Tr.getV tm 25 = .c T∧Tr.getV tm 26 = .c (.int .i64 (.ofNat (ix g.d d).l.length))∧Tr.getV tm 27 = .c (.int .i64 (.ofNat j))
    ∧ σ3.h σ.nxt=some ⟨[ev,.sl bd od g.d.length cd],none⟩∧σ3.h (σ.nxt+1)=some ⟨lgC (legsB g.d d j),some (0,0)⟩∧Fr σ σ3∧σ.nxt+1+1≤σ3.nxt) (ix g.d d).l.length ?_ ?_
   ·refine ⟨0,by omega,by omega,?_⟩
    simp (config:={ maxSteps:=1000000 }) (disch:=first | assumption | decide | omega) only [go_sem,z3,t1,t3,t18,t19,t20,true_and]
    exact ⟨q0,q1,by repeat (first | assumption | exact Fr.refl (by assumption) | exact Fr.up (by assumption) (by first | omega | (dsimp only; omega)) | exact Fr.up (Fr.refl (by assumption)) (by first | omega | (dsimp only; omega)) | refine Fr.set1 ?_ (by first | omega | (dsimp only; omega)) (by first | omega | (dsimp only; omega)) | refine Fr.del1 ?_ (by first | omega | (dsimp only; omega)) | refine Fr.newU ?_ (by first | omega | (dsimp only; omega))),by omega⟩
   ·rintro q tm3 σ3 ⟨j,rfl,hj,t1,t3,t18,t19,t20,t25,t26,t27,q0,q1,hf3,hn3⟩
    have hle3:=hf3.le
    simp (config:={ maxSteps:=1000000 }) (disch:=first | assumption | decide | omega) only [go_sem,z3,t1,t3,t18,t19,t20,t25,t26,t27,lt_ofNat]
    refine ifV_dec (fun hlj=>?_) (fun hlj=>?_)
    ·obtain ⟨b2,o2,c2,rfl,hl2,-,-⟩:=hL.at hlj
     obtain ⟨e,m,hx,he,hm⟩:=hV.l d hlt j hlj
     have hll:=legsB_len hV d j hd (by omega)
     have hls:=legsB_succ' hlj
     rw [hx] at hl2 hls
     have hl2:=hf3.ld hW hl2
     have hne2:=hV.nc e he
     simp (config:={ maxSteps:=1000000 }) (disch:=first | assumption | decide | omega) only [go_sem,z3,t1,t3,t18,t19,t20,t25,t26,t27,hl2,q1]
     exact ⟨(ix g.d d).l.length - (j+1),by omega,j+1,rfl,by omega,rfl,q0,by rw [hls],by repeat (first | assumption | exact Fr.refl (by assumption) | exact Fr.up (by assumption) (by first | omega | (dsimp only; omega)) | exact Fr.up (Fr.refl (by assumption)) (by first | omega | (dsimp only; omega)) | refine Fr.set1 ?_ (by first | omega | (dsimp only; omega)) (by first | omega | (dsimp only; omega)) | refine Fr.del1 ?_ (by first | omega | (dsimp only; omega)) | refine Fr.newU ?_ (by first | omega | (dsimp only; omega))),by omega⟩
    ·have:j=(ix g.d d).l.length:=by omega
     subst this
     rw [legsB_next' hlt] at q1
     simp (config:={ maxSteps:=1000000 }) (disch:=first | assumption | decide | omega) only [go_sem,z3,t1,t3,t18,t19,t20]
     exact ⟨g.d.length - (d+1),by omega,d+1,rfl,by omega,rfl,q0,q1,hf3,hn3⟩
  ·have:d=g.d.length:=by omega
   subst this
   simp (config:={ maxSteps:=1000000 }) (disch:=first | assumption | decide | omega) only [go_sem,z3,true_and]
   exact ⟨t1,t3,q0,q1,hf,hnx⟩
 ·rintro _ tm σ' ⟨rfl,t1,t3,q0,q1,hf,hnx⟩
  have hle:=hf.le
  simp (config:={ maxSteps:=1000000 }) (disch:=first | assumption | decide | omega) only [go_sem,z3,t1,t3,ld_blk q0,hek,hlenE]
  refine RunX.mono (Q:=fun e tm σ'=>e = .exit 4∧∃ rv,Tr.getV tm 1 = .c (.ptr σ.nxt 0)∧Tr.getV tm 8 = .c rv∧σ'.h σ.nxt=some ⟨[ev,dv],none⟩∧RtL σ'.h rv (rtE g g.e.length) (σ.nxt+1+1) σ'.nxt∧Fr σ σ'∧σ.nxt+1+1≤σ'.nxt)
   (run_loop (fun q tm σ'=>∃ i rv,q=g.e.length - i∧i≤g.e.length∧Tr.getV tm 1 = .c (.ptr σ.nxt 0)∧Tr.getV tm 3 = .c (.mp (σ.nxt+1))∧Tr.getV tm 8 = .c rv∧Tr.getV tm 36 = .c ev∧Tr.getV tm 37 = .c (.int .i64 (.ofNat g.e.length))∧Tr.getV tm 38 = .c (.int .i64 (.ofNat i))
    ∧ σ'.h σ.nxt=some ⟨[ev,dv],none⟩∧σ'.h (σ.nxt+1)=some ⟨lgC (legsB g.d g.d.length 0),some (0,0)⟩∧RtL σ'.h rv (rtE g i) (σ.nxt+1+1) σ'.nxt∧Fr σ σ'∧σ.nxt+1+1≤σ'.nxt) g.e.length ?_ ?_) ?_
  ·refine ⟨0,.nils,by omega,by omega,?_⟩
   simp (config:={ maxSteps:=1000000 }) (disch:=first | assumption | decide | omega) only [go_sem,z3,t1,t3,true_and]
   exact ⟨q0,q1,.nil,hf,hnx⟩
  ·rintro q tm σ' ⟨i,rv,rfl,hi,t1,t3,t8,t36,t37,t38,q0,q1,hO,hf,hnx⟩
   have hle:=hf.le
   simp (config:={ maxSteps:=1000000 }) (disch:=first | assumption | decide | omega) only [go_sem,z3,t1,t3,t8,t36,t37,t38,lt_ofNat]
   refine ifV_dec (fun hlt=>?_) (fun hlt=>?_)
   ·obtain ⟨b,o,c,rfl,C,A,hE0,-,hC,hA⟩:=hg.e.at hlt
    have hE1:=hf.ld hW hE0
    have hCk:=hC.kn
    have hAk:=hA.kn
    have hlenC:=hC.len
    have hnc:=hV.nc i hlt
    have hEl:=rtE_len hV i hi
    simp (config:={ maxSteps:=1000000 }) (disch:=first | assumption | decide | omega) only [go_sem,z3,t1,t3,t8,t36,t37,t38,hE1,hCk,hAk,hlenC]
    refine run_loop (fun q tm σ3=>∃ k rv,q=(ix g.e i).c.length - k∧k≤(ix g.e i).c.length∧Tr.getV tm 1 = .c (.ptr σ.nxt 0)∧Tr.getV tm 3 = .c (.mp (σ.nxt+1))∧Tr.getV tm 8 = .c rv∧Tr.getV tm 9 = .c (.int .i64 (.ofNat i))∧Tr.getV tm 36 = .c (.sl b o g.e.length c)∧Tr.getV tm 37 = .c (.int .i64 (.ofNat g.e.length))∧Tr.getV tm 38 = .c (.int .i64 (.ofNat i))
     ∧ Tr.getV tm 44 = .c C∧Tr.getV tm 45 = .c (.int .i64 (.ofNat (ix g.e i).c.length))∧Tr.getV tm 46 = .c (.int .i64 (.ofNat k))
     ∧ σ3.h σ.nxt=some ⟨[.sl b o g.e.length c,dv],none⟩∧σ3.h (σ.nxt+1)=some ⟨lgC (legsB g.d g.d.length 0),some (0,0)⟩∧RtL σ3.h rv (rtA g i (rtE g i) k) (σ.nxt+1+1) σ3.nxt∧Fr σ σ3∧σ.nxt+1+1≤σ3.nxt) (ix g.e i).c.length ?_ ?_
    ·refine ⟨0,rv,by omega,by omega,?_⟩
     simp (config:={ maxSteps:=1000000 }) (disch:=first | assumption | decide | omega) only [go_sem,z3,t1,t3,t8,t36,t37,t38,true_and]
     refine ⟨q0,q1,?_,by repeat (first | assumption | exact Fr.refl (by assumption) | exact Fr.up (by assumption) (by first | omega | (dsimp only; omega)) | exact Fr.up (Fr.refl (by assumption)) (by first | omega | (dsimp only; omega)) | refine Fr.set1 ?_ (by first | omega | (dsimp only; omega)) (by first | omega | (dsimp only; omega)) | refine Fr.del1 ?_ (by first | omega | (dsimp only; omega)) | refine Fr.newU ?_ (by first | omega | (dsimp only; omega))),by omega⟩
     exact OwnL.mono hO (fun b9 h1 h2=>by simp (disch:=omega) only [hset_ne]) (Nat.le_refl _) (by omega)
    ·rintro q tm3 σ3 ⟨k,rv3,rfl,hk,t1,t3,t8,t9,t36,t37,t38,t44,t45,t46,q0,q1,hO3,hf3,hn3⟩
     have hle3:=hf3.le
     simp (config:={ maxSteps:=1000000 }) (disch:=first | assumption | decide | omega) only [go_sem,z3,t1,t3,t8,t9,t36,t37,t38,t44,t45,t46,lt_ofNat]
     refine ifV_dec (fun hlk=>?_) (fun hlk=>?_)
     ·obtain ⟨b5,o5,c5,rfl,-,hc0⟩:=hC.ldh hlk
      have hc1:=hf3.ld hW hc0
      unfold c5B at hc1
      have hAl:=rtA_len g i (rtE g i) k
      have hA1:rtA g i (rtE g i) (k+1)=if (ix (ix g.e i).c k).h = .negSucc 0∧isLg g i k=false then rtA g i (rtE g i) k ++ [(.negSucc 0,.ofNat i,.ofNat k)] else rtA g i (rtE g i) k:=rfl
      generalize rtA g i (rtE g i) k=L at *
      have hlgd:hasLg (legsB g.d g.d.length 0) ⟨.ofNat i,.ofNat k⟩=isLg g i k:=rfl
      simp (config:={ maxSteps:=1000000 }) (disch:=first | assumption | decide | omega) only [go_sem,z3,t1,t3,t8,t9,t36,t37,t38,t44,t45,t46,hc1]
      refine gsV_dec (fun hh=>?_) (fun hh=>?_)
      ·cases hlg:isLg g i k with
       | true =>
        rw [hlg,if_neg (fun h=>by cases h.2)] at hA1
        rw [hlg] at hlgd
        simp (config:={ maxSteps:=1000000 }) (disch:=first | assumption | decide | omega) only [go_sem,z3,t1,t3,t8,t9,t36,t37,t38,t44,t45,t46,hh,q1,hlgd]
        refine ⟨(ix g.e i).c.length - (k+1),by omega,k+1,rv3,rfl,by omega,rfl,rfl,q0,?_,by repeat (first | assumption | exact Fr.refl (by assumption) | exact Fr.up (by assumption) (by first | omega | (dsimp only; omega)) | exact Fr.up (Fr.refl (by assumption)) (by first | omega | (dsimp only; omega)) | refine Fr.set1 ?_ (by first | omega | (dsimp only; omega)) (by first | omega | (dsimp only; omega)) | refine Fr.del1 ?_ (by first | omega | (dsimp only; omega)) | refine Fr.newU ?_ (by first | omega | (dsimp only; omega))),by omega⟩
        rw [hA1]; exact OwnL.mono hO3 (fun b9 h1 h2=>by simp (disch:=omega) only [hset_ne]) (Nat.le_refl _) (by omega)
       | false =>
        rw [hlg,if_pos ⟨hh,rfl⟩] at hA1
        rw [hlg] at hlgd
        rcases hO3.cases with ⟨rfl,rfl⟩ | ⟨hl0,bl,rfl,k1,k2,k3⟩
        ·simp (config:={ maxSteps:=1000000 }) (disch:=first | assumption | decide | omega) only [go_sem,z3,t1,t3,t8,t9,t36,t37,t38,t44,t45,t46,hh,q1,hlgd]
         refine ⟨(ix g.e i).c.length - (k+1),by omega,k+1,_,rfl,by omega,rfl,rfl,q0,?_,by repeat (first | assumption | exact Fr.refl (by assumption) | exact Fr.up (by assumption) (by first | omega | (dsimp only; omega)) | exact Fr.up (Fr.refl (by assumption)) (by first | omega | (dsimp only; omega)) | refine Fr.set1 ?_ (by first | omega | (dsimp only; omega)) (by first | omega | (dsimp only; omega)) | refine Fr.del1 ?_ (by first | omega | (dsimp only; omega)) | refine Fr.newU ?_ (by first | omega | (dsimp only; omega))),by omega⟩
         rw [hA1]; exact RtL.push (l:=[]) (by omega) rfl _ (by omega)
        ·have hrl:=rt_lenC L
         have hrt:=rt_take L
         simp (config:={ maxSteps:=1000000 }) (disch:=first | assumption | decide | omega) only [go_sem,z3,t1,t3,t8,t9,t36,t37,t38,t44,t45,t46,hh,q1,hlgd,k1]
         refine ⟨(ix g.e i).c.length - (k+1),by omega,k+1,_,rfl,by omega,rfl,rfl,q0,?_,by repeat (first | assumption | exact Fr.refl (by assumption) | exact Fr.up (by assumption) (by first | omega | (dsimp only; omega)) | exact Fr.up (Fr.refl (by assumption)) (by first | omega | (dsimp only; omega)) | refine Fr.set1 ?_ (by first | omega | (dsimp only; omega)) (by first | omega | (dsimp only; omega)) | refine Fr.del1 ?_ (by first | omega | (dsimp only; omega)) | refine Fr.newU ?_ (by first | omega | (dsimp only; omega))),by omega⟩
         rw [hA1]; exact RtL.push (by omega) (by rw [hrt]; rfl) _ (by omega)
      ·rw [if_neg (fun h=>hh h.1)] at hA1
       simp (config:={ maxSteps:=1000000 }) (disch:=first | assumption | decide | omega) only [go_sem,z3,t1,t3,t8,t9,t36,t37,t38,t44,t45,t46,hh]
       refine ⟨(ix g.e i).c.length - (k+1),by omega,k+1,rv3,rfl,by omega,rfl,rfl,q0,q1,?_,by repeat (first | assumption | exact Fr.refl (by assumption) | exact Fr.up (by assumption) (by first | omega | (dsimp only; omega)) | exact Fr.up (Fr.refl (by assumption)) (by first | omega | (dsimp only; omega)) | refine Fr.set1 ?_ (by first | omega | (dsimp only; omega)) (by first | omega | (dsimp only; omega)) | refine Fr.del1 ?_ (by first | omega | (dsimp only; omega)) | refine Fr.newU ?_ (by first | omega | (dsimp only; omega))),by omega⟩
       rw [hA1]; exact OwnL.mono hO3 (fun b9 h1 h2=>by simp (disch:=omega) only [hset_ne]) (Nat.le_refl _) (by omega)
     ·have:k=(ix g.e i).c.length:=by omega
      subst this
      simp (config:={ maxSteps:=1000000 }) (disch:=first | assumption | decide | omega) only [go_sem,z3,t1,t3,t8,t9,t36,t37,t38]
      exact ⟨g.e.length - (i+1),by omega,i+1,rv3,rfl,by omega,rfl,rfl,q0,q1,hO3,hf3,hn3⟩
   ·have:i=g.e.length:=by omega
    subst this
    simp (config:={ maxSteps:=1000000 }) (disch:=first | assumption | decide | omega) only [go_sem,z3,true_and]
    exact ⟨rv,t1,t8,q0,hO,hf,hnx⟩
  ·rintro _ tm σ' ⟨rfl,rv,t1,t8,q0,hO,hf,hnx⟩
   have hle:=hf.le
   simp (config:={ maxSteps:=1000000 }) (disch:=first | assumption | decide | omega) only [go_sem,z3,t1,t8,ld_blk q0,hdk,hlenD]
   refine run_loop (fun q tm σ'=>∃ d rv,q=g.d.length - d∧d≤g.d.length∧Tr.getV tm 1 = .c (.ptr σ.nxt 0)∧Tr.getV tm 8 = .c rv∧Tr.getV tm 71 = .c dv∧Tr.getV tm 72 = .c (.int .i64 (.ofNat g.d.length))∧Tr.getV tm 73 = .c (.int .i64 (.ofNat d))∧σ'.h σ.nxt=some ⟨[ev,dv],none⟩∧RtL σ'.h rv (rtD g d) (σ.nxt+1+1) σ'.nxt∧Fr σ σ'∧σ.nxt+1+1≤σ'.nxt) g.d.length ?_ ?_
   ·refine ⟨0,rv,by omega,by omega,?_⟩
    simp (config:={ maxSteps:=1000000 }) (disch:=first | assumption | decide | omega) only [go_sem,z3,t1,t8,true_and]
    exact ⟨q0,hO,hf,hnx⟩
   ·rintro q tm σ' ⟨d,rv,rfl,hd,t1,t8,t71,t72,t73,q0,hO,hf,hnx⟩
    have hle:=hf.le
    simp (config:={ maxSteps:=1000000 }) (disch:=first | assumption | decide | omega) only [go_sem,z3,t1,t8,t71,t72,t73,lt_ofNat]
    refine ifV_dec (fun hlt=>?_) (fun hlt=>?_)
    ·obtain ⟨bd,od,cd,rfl,T,hT4,-,hL⟩:=hg.d.at hlt
     have hT:=hf.ld hW hT4
     have hTk:=hL.kn
     have hlenL:=hL.len
     have hDl:=rtD_len hV d
     have hD1:rtD g (d+1)=if 0<(ix g.d d).l.length∧holdL g.e (ix (ix g.d d).l 0) = .negSucc 0 then rtD g d ++ [(.ofNat d,.ofNat 0,.ofNat 0)] else rtD g d:=rfl
     generalize rtD g d=L at *
     simp (config:={ maxSteps:=1000000 }) (disch:=first | assumption | decide | omega) only [go_sem,z3,t1,t8,t71,t72,t73,hT,hTk,hlenL,lt_ofNat]
     refine gsV_dec (fun hl=>?_) (fun hl=>?_)
     ·obtain ⟨b2,o2,c2,rfl,-,hle2,hlk2⟩:=hL.at hl
      obtain ⟨e,m,hx,he,hm⟩:=hV.l d hlt 0 hl
      rw [hx] at hle2 hlk2 hD1
      have hle2:=hf.ld hW hle2
      have hlk2:=hf.ld hW hlk2
      obtain ⟨b,o,c,rfl,C,A,-,hC0,hC,-⟩:=hg.e.at he
      obtain ⟨b5,o5,c5,rfl,hh0,-⟩:=hC.ldh hm
      have hC1:=hf.ld hW hC0
      have hh1:=hf.ld hW hh0
      have hb2:=hf.wf.ld_lt hle2
      have hb:=hf.wf.ld_lt hC1
      have hb5:=hf.wf.ld_lt hh1
      have hq:=hf.wf.lt q0
      simp (config:={ maxSteps:=1000000 }) (disch:=first | assumption | decide | omega) only [go_sem,z3,t1,t8,t71,t72,t73,ld_blk q0,hek,hle2,hlk2,hC1,hh1,hl,hTk,hlenL]
      refine ifV_dec (fun hh=>?_) (fun hh=>?_)
      ·rw [if_pos ⟨hl,hh⟩] at hD1
       rcases hO.cases with ⟨rfl,rfl⟩ | ⟨hl0,bl,rfl,k1,k2,k3⟩
       ·simp (config:={ maxSteps:=1000000 }) (disch:=first | assumption | decide | omega) only [go_sem,z3,t1,t8,t71,t72,t73]
        refine ⟨g.d.length - (d+1),by omega,d+1,_,rfl,by omega,rfl,rfl,q0,?_,by repeat (first | assumption | exact Fr.refl (by assumption) | exact Fr.up (by assumption) (by first | omega | (dsimp only; omega)) | exact Fr.up (Fr.refl (by assumption)) (by first | omega | (dsimp only; omega)) | refine Fr.set1 ?_ (by first | omega | (dsimp only; omega)) (by first | omega | (dsimp only; omega)) | refine Fr.del1 ?_ (by first | omega | (dsimp only; omega)) | refine Fr.newU ?_ (by first | omega | (dsimp only; omega))),by omega⟩
        rw [hD1]; exact RtL.push (l:=[]) (by omega) rfl _ (by omega)
       ·have hrl:=rt_lenC L
        have hrt:=rt_take L
        simp (config:={ maxSteps:=1000000 }) (disch:=first | assumption | decide | omega) only [go_sem,z3,t1,t8,t71,t72,t73,k1]
        refine ⟨g.d.length - (d+1),by omega,d+1,_,rfl,by omega,rfl,rfl,q0,?_,by repeat (first | assumption | exact Fr.refl (by assumption) | exact Fr.up (by assumption) (by first | omega | (dsimp only; omega)) | exact Fr.up (Fr.refl (by assumption)) (by first | omega | (dsimp only; omega)) | refine Fr.set1 ?_ (by first | omega | (dsimp only; omega)) (by first | omega | (dsimp only; omega)) | refine Fr.del1 ?_ (by first | omega | (dsimp only; omega)) | refine Fr.newU ?_ (by first | omega | (dsimp only; omega))),by omega⟩
        rw [hD1]; exact RtL.push (by omega) (by rw [hrt]; rfl) _ (by omega)
      ·rw [if_neg (fun h=>hh h.2)] at hD1
       simp (config:={ maxSteps:=1000000 }) (disch:=first | assumption | decide | omega) only [go_sem,z3,t1,t8,t71,t72,t73]
       refine ⟨g.d.length - (d+1),by omega,d+1,rv,rfl,by omega,rfl,rfl,q0,?_,by repeat (first | assumption | exact Fr.refl (by assumption) | exact Fr.up (by assumption) (by first | omega | (dsimp only; omega)) | exact Fr.up (Fr.refl (by assumption)) (by first | omega | (dsimp only; omega)) | refine Fr.set1 ?_ (by first | omega | (dsimp only; omega)) (by first | omega | (dsimp only; omega)) | refine Fr.del1 ?_ (by first | omega | (dsimp only; omega)) | refine Fr.newU ?_ (by first | omega | (dsimp only; omega))),by omega⟩
       rw [hD1]; exact OwnL.mono hO (fun b9 h1 h2=>by simp (disch:=omega) only [hset_ne]) (Nat.le_refl _) (by omega)
     ·rw [if_neg (fun h=>hl h.1)] at hD1
      simp (config:={ maxSteps:=1000000 }) (disch:=first | assumption | decide | omega) only [go_sem,z3,t1,t8,t71,t72,t73,hl,hTk,hlenL]
      refine ⟨g.d.length - (d+1),by omega,d+1,rv,rfl,by omega,rfl,rfl,q0,?_,by repeat (first | assumption | exact Fr.refl (by assumption) | exact Fr.up (by assumption) (by first | omega | (dsimp only; omega)) | exact Fr.up (Fr.refl (by assumption)) (by first | omega | (dsimp only; omega)) | refine Fr.set1 ?_ (by first | omega | (dsimp only; omega)) (by first | omega | (dsimp only; omega)) | refine Fr.del1 ?_ (by first | omega | (dsimp only; omega)) | refine Fr.newU ?_ (by first | omega | (dsimp only; omega))),by omega⟩
      rw [hD1]; exact OwnL.mono hO (fun b9 h1 h2=>by simp (disch:=omega) only [hset_ne]) (Nat.le_refl _) (by omega)
    ·have:d=g.d.length:=by omega
     subst this
     simp (config:={ maxSteps:=1000000 }) (disch:=first | assumption | decide | omega) only [go_sem,z3,t8]
     exact ⟨rv,rfl,OwnL.mono hO (fun _ _ _=>rfl) (by omega) (Nat.le_refl _),hf⟩
def RtsV (σ' : St) (g:Grp) (lo:Nat) (r:V):Prop:=(chkG g≠0∧r = .tcons (.c .nils) (.tcons (.c (.int .i64 (chkG g))) .tnil))∨(chkG g=0∧∃ rv,r = .tcons (.c rv) (.tcons (.c (.int .i64 (.ofNat 0))) .tnil)∧RtL σ'.h rv (rightsL g) lo σ'.nxt)
set_option maxRecDepth 10000 in
theorem drights_x {σ:St} (hW:WF σ) {p:Nat→Prop} {ev dv:B} (g:Grp) (hg:HGrp p σ.h ev dv g) (hs:SmallG 134217728 g) :
  CallX EN 21 [.agg [ev,dv]] σ fun r σ'=>RtsV σ' g σ.nxt r∧Fr σ σ':=by
 refine call_fn (O_dividend_Rights _ _) F_dividend_Rights ?_
 unfold a_dividend_Rights
 have hek:=hg.e.kn
 have hdk:=hg.d.kn
 simp (config:={ maxSteps:=1000000 }) (disch:=first | assumption | decide | omega) only [go_sem,z3,hek,hdk]
 refine CallX.st (Fr σ) (by repeat (first | assumption | exact Fr.refl (by assumption) | exact Fr.up (by assumption) (by first | omega | (dsimp only; omega)) | exact Fr.up (Fr.refl (by assumption)) (by first | omega | (dsimp only; omega)) | refine Fr.set1 ?_ (by first | omega | (dsimp only; omega)) (by first | omega | (dsimp only; omega)) | refine Fr.del1 ?_ (by first | omega | (dsimp only; omega)) | refine Fr.newU ?_ (by first | omega | (dsimp only; omega)))) fun hF=>?_
 rw [x_Check (hg.fr hW hF) hs]
 by_cases h0:chkG g = .ofNat 0
 ·rw [h0]
  simp (config:={ maxSteps:=1000000 }) (disch:=first | assumption | decide | omega) only [go_sem,z3,hek,hdk]
  refine (rights_x hF.wf g (hg.fr hW hF) h0).mono ?_
  rintro _ σ2 ⟨rv,rfl,hR,hf2⟩
  have hF2:=hF.trans hf2
  have hle:=hF.le
  simp (config:={ maxSteps:=1000000 }) (disch:=first | assumption | decide | omega) only [go_sem,z3,hek]
  exact ⟨.inr ⟨h0,rv,rfl,OwnL.mono hR (fun _ _ _=>rfl) (by show σ.nxt≤σ.nxt+1; omega) (Nat.le_refl _)⟩,hF2⟩
 ·have h1:decide (chkG g = .ofNat 0)=false:=decide_eq_false h0
  simp (config:={ maxSteps:=1000000 }) (disch:=first | assumption | decide | omega) only [go_sem,z3,hek,hdk,h1]
  exact ⟨.inl ⟨h0,rfl⟩,hF⟩
set_option maxRecDepth 10000 in
theorem rRights_x {σ:St} (hW:WF σ) {p:Nat→Prop} {ev dv:B} (g:Grp) (hg:HGrp p σ.h ev dv g) (hs:SmallG 134217728 g) :
  CallX EN 22 [.agg [ev,dv]] σ fun r σ'=>RtsV σ' g σ.nxt r∧Fr σ σ':=by
 refine call_fn (O_r21_Rights _ _) F_r21_Rights ?_
 unfold a_r21_Rights
 have hek:=hg.e.kn
 have hdk:=hg.d.kn
 simp (config:={ maxSteps:=1000000 }) (disch:=first | assumption | decide | omega) only [go_sem,z3,hek,hdk]
 refine CallX.st (Fr σ) (by repeat (first | assumption | exact Fr.refl (by assumption) | exact Fr.up (by assumption) (by first | omega | (dsimp only; omega)) | exact Fr.up (Fr.refl (by assumption)) (by first | omega | (dsimp only; omega)) | refine Fr.set1 ?_ (by first | omega | (dsimp only; omega)) (by first | omega | (dsimp only; omega)) | refine Fr.del1 ?_ (by first | omega | (dsimp only; omega)) | refine Fr.newU ?_ (by first | omega | (dsimp only; omega)))) fun hF=>?_
 rw [x_rCheck (hg.fr hW hF) hs]
 by_cases h0:chkG g = .ofNat 0
 ·rw [h0]
  simp (config:={ maxSteps:=1000000 }) (disch:=first | assumption | decide | omega) only [go_sem,z3,hek,hdk]
  refine (rrights_x hF.wf g (hg.fr hW hF) hs h0).mono ?_
  rintro _ σ2 ⟨rv,rfl,hR,hf2⟩
  have hF2:=hF.trans hf2
  have hle:=hF.le
  simp (config:={ maxSteps:=1000000 }) (disch:=first | assumption | decide | omega) only [go_sem,z3,hek]
  exact ⟨.inr ⟨h0,rv,rfl,OwnL.mono hR (fun _ _ _=>rfl) (by show σ.nxt≤σ.nxt+1; omega) (Nat.le_refl _)⟩,hF2⟩
 ·have h1:decide (chkG g = .ofNat 0)=false:=decide_eq_false h0
  simp (config:={ maxSteps:=1000000 }) (disch:=first | assumption | decide | omega) only [go_sem,z3,hek,hdk,h1]
  exact ⟨.inl ⟨h0,rfl⟩,hF⟩
end Go.Proofs.Xe
