/- What the rights of a group receive: the program's side, in the executor's words. -/
import Derived.Test.YtiaefgffeekfkaaGreatDoorZ37
set_option linter.unusedSimpArgs false
set_option linter.unusedVariables false
set_option maxHeartbeats 8000000
namespace Go.Proofs.Xe
open Go.RowKit Go.Proofs.Ins
theorem legsB_len {g:Grp} (hV:VG g) : ∀ d k,d≤g.d.length→k≤8→(legsB g.d d k).length≤d*8+k
 | 0,k,_,hk=>by
  unfold legsB
  simp only [List.take_zero,List.flatMap_nil,List.nil_append,List.length_take]; omega
 | d+1,k,h,hk=>by
  have h1:=legsB_len hV d (ix g.d d).l.length (by omega) (hV.nl d (by omega))
  have h2:=hV.nl d (by omega)
  have h3:legsB g.d (d+1) k=legsB g.d (d+1) 0 ++ (ix g.d (d+1)).l.take k:=by unfold legsB; simp
  rw [legsB_next' (by omega)] at h1
  rw [h3,List.length_append,List.length_take]
  omega
set_option maxRecDepth 10000 in
theorem rights_x {σ:St} (hW:WF σ) {p:Nat→Prop} {ev dv:B} (g:Grp) (hg:HGrp p σ.h ev dv g) (h0:chkG g=0) :
  CallX EN 51 [.agg [ev,dv]] σ fun r σ'=>∃ rv,r = .c rv∧RtL σ'.h rv (rightsL g) σ.nxt σ'.nxt∧Fr σ σ':=by
 refine call_fn (O_dividend_rights _ _) F_dividend_rights ?_
 unfold a_dividend_rights
 have hV:=chkG_valid h0
 have hek:=hg.e.kn
 have hdk:=hg.d.kn
 have hlenE:=hg.e.len
 have hlenD:=hg.d.choose_spec.1.len
 have hne:=hV.ne
 have hnd:=hV.nd
 simp (config:={ maxSteps:=1000000 }) (disch:=first | assumption | decide | omega) only [go_sem,z3,hek,hdk,hlenD]
 refine RunX.mono (Q:=fun e tm σ'=>e = .exit 0∧Tr.getV tm 1 = .c (.ptr σ.nxt 0)∧Tr.getV tm 3 = .c (.mp (σ.nxt+1))∧σ'.h σ.nxt=some ⟨[ev,dv],none⟩∧σ'.h (σ.nxt+1)=some ⟨lgC (legsB g.d g.d.length 0),some (0,0)⟩∧Fr σ σ'∧σ.nxt+1+1≤σ'.nxt)
  (run_loop (fun q tm σ'=>∃ d,q=g.d.length - d∧d≤g.d.length∧Tr.getV tm 1 = .c (.ptr σ.nxt 0)∧Tr.getV tm 3 = .c (.mp (σ.nxt+1))∧Tr.getV tm 18 = .c dv∧Tr.getV tm 19 = .c (.int .i64 (.ofNat g.d.length))∧Tr.getV tm 20 = .c (.int .i64 (.ofNat d))
   ∧ σ'.h σ.nxt=some ⟨[ev,dv],none⟩∧σ'.h (σ.nxt+1)=some ⟨lgC (legsB g.d d 0),some (0,0)⟩∧Fr σ σ'∧σ.nxt+1+1≤σ'.nxt) g.d.length ?_ ?_) ?_
 ·refine ⟨0,by omega,by omega,?_⟩
  simp (config:={ maxSteps:=1000000 }) (disch:=first | assumption | decide | omega) only [go_sem,z3,true_and]
  refine ⟨?_,?_,?_⟩
  ·rfl
  ·repeat (first | assumption | exact Fr.refl (by assumption) | exact Fr.up (by assumption) (by first | omega | (dsimp only; omega)) | exact Fr.up (Fr.refl (by assumption)) (by first | omega | (dsimp only; omega)) | refine Fr.set1 ?_ (by first | omega | (dsimp only; omega)) (by first | omega | (dsimp only; omega)) | refine Fr.del1 ?_ (by first | omega | (dsimp only; omega)) | refine Fr.newU ?_ (by first | omega | (dsimp only; omega)))
  ·omega
 ·rintro q tm σ' ⟨d,rfl,hd,t1,t3,t18,t19,t20,q0,q1,hf,hnx⟩
  have hle:=hf.le
  simp (config:={ maxSteps:=1000000 }) (disch:=first | assumption | decide | omega) only [go_sem,z3,t1,t3,t18,t19,t20,lt_ofNat]
  refine ifV_dec (fun hlt=>?_) (fun hlt=>?_)
  ·obtain ⟨bd,od,cd,rfl,T,hT4,-,hL⟩:=hg.d.at hlt
   have hT:=hf.ld hW hT4
   have hTk:=hL.kn
   have hlenL:=hL.len
   have hnl:=hV.nl d hlt
   simp (config:={ maxSteps:=1000000 }) (disch:=first | assumption | decide | omega) only [go_sem,z3,t1,t3,t18,t19,t20,hT,hTk,hlenL]
   refine run_loop (fun q tm σ3=>∃ j,q=(ix g.d d).l.length - j∧j≤(ix g.d d).l.length∧Tr.getV tm 1 = .c (.ptr σ.nxt 0)∧Tr.getV tm 3 = .c (.mp (σ.nxt+1))∧Tr.getV tm 18 = .c (.sl bd od g.d.length cd)∧Tr.getV tm 19 = .c (.int .i64 (.ofNat g.d.length))∧Tr.getV tm 20 = .c (.int .i64 (.ofNat d))
    ∧ Tr.getV tm 25 = .c T∧Tr.getV tm 26 = .c (.int .i64 (.ofNat (ix g.d d).l.length))∧Tr.getV tm 27 = .c (.int .i64 (.ofNat j))
    ∧ σ3.h σ.nxt=some ⟨[ev,.sl bd od g.d.length cd],none⟩∧σ3.h (σ.nxt+1)=some ⟨lgC (legsB g.d d j),some (0,0)⟩∧Fr σ σ3∧σ.nxt+1+1≤σ3.nxt) (ix g.d d).l.length ?_ ?_
   ·refine ⟨0,by omega,by omega,?_⟩
    simp (config:={ maxSteps:=1000000 }) (disch:=first | assumption | decide | omega) only [go_sem,z3,t1,t3,t18,t19,t20,true_and]
    exact ⟨q0,q1,by repeat (first | assumption | exact Fr.refl (by assumption) | exact Fr.up (by assumption) (by first | omega | (dsimp only; omega)) | exact Fr.up (Fr.refl (by assumption)) (by first | omega | (dsimp only; omega)) | refine Fr.set1 ?_ (by first | omega | (dsimp only; omega)) (by first | omega | (dsimp only; omega)) | refine Fr.del1 ?_ (by first | omega | (dsimp only; omega)) | refine Fr.newU ?_ (by first | omega | (dsimp only; omega))),by omega⟩
   ·rintro q tm3 σ3 ⟨j,rfl,hj,t1,t3,t18,t19,t20,t25,t26,t27,q0,q1,hf3,hn3⟩
    have hle3:=hf3.le
    simp (config:={ maxSteps:=1000000 }) (disch:=first | assumption | decide | omega) only [go_sem,z3,t1,t3,t18,t19,t20,t25,t26,t27,lt_ofNat]
    refine ifV_dec (fun hlj=>?_) (fun hlj=>?_)
    ·obtain ⟨b2,o2,c2,rfl,hl2,-,-⟩:=hL.at hlj
     obtain ⟨e,m,hx,he,hm⟩:=hV.l d hlt j hlj
     have hll:=legsB_len hV d j hd (by omega)
     have hls:=legsB_succ' hlj
     rw [hx] at hl2 hls
     have hl2:=hf3.ld hW hl2
     have hne2:=hV.nc e he
     simp (config:={ maxSteps:=1000000 }) (disch:=first | assumption | decide | omega) only [go_sem,z3,t1,t3,t18,t19,t20,t25,t26,t27,hl2,q1]
     exact ⟨(ix g.d d).l.length - (j+1),by omega,j+1,rfl,by omega,rfl,q0,by rw [hls],by repeat (first | assumption | exact Fr.refl (by assumption) | exact Fr.up (by assumption) (by first | omega | (dsimp only; omega)) | exact Fr.up (Fr.refl (by assumption)) (by first | omega | (dsimp only; omega)) | refine Fr.set1 ?_ (by first | omega | (dsimp only; omega)) (by first | omega | (dsimp only; omega)) | refine Fr.del1 ?_ (by first | omega | (dsimp only; omega)) | refine Fr.newU ?_ (by first | omega | (dsimp only; omega))),by omega⟩
    ·have:j=(ix g.d d).l.length:=by omega
     subst this
     rw [legsB_next' hlt] at q1
     simp (config:={ maxSteps:=1000000 }) (disch:=first | assumption | decide | omega) only [go_sem,z3,t1,t3,t18,t19,t20]
     exact ⟨g.d.length - (d+1),by omega,d+1,rfl,by omega,rfl,q0,q1,hf3,hn3⟩
  ·have:d=g.d.length:=by omega
   subst this
   simp (config:={ maxSteps:=1000000 }) (disch:=first | assumption | decide | omega) only [go_sem,z3,true_and]
   exact ⟨t1,t3,q0,q1,hf,hnx⟩
 ·rintro _ tm σ' ⟨rfl,t1,t3,q0,q1,hf,hnx⟩
  have hle:=hf.le
  simp (config:={ maxSteps:=1000000 }) (disch:=first | assumption | decide | omega) only [go_sem,z3,t1,t3,ld_blk q0,hek,hlenE]
  refine RunX.mono (Q:=fun e tm σ'=>e = .exit 4∧∃ rv,Tr.getV tm 1 = .c (.ptr σ.nxt 0)∧Tr.getV tm 8 = .c rv∧σ'.h σ.nxt=some ⟨[ev,dv],none⟩∧RtL σ'.h rv (rtE g g.e.length) (σ.nxt+1+1) σ'.nxt∧Fr σ σ'∧σ.nxt+1+1≤σ'.nxt)
   (run_loop (fun q tm σ'=>∃ i rv,q=g.e.length - i∧i≤g.e.length∧Tr.getV tm 1 = .c (.ptr σ.nxt 0)∧Tr.getV tm 3 = .c (.mp (σ.nxt+1))∧Tr.getV tm 8 = .c rv∧Tr.getV tm 36 = .c ev∧Tr.getV tm 37 = .c (.int .i64 (.ofNat g.e.length))∧Tr.getV tm 38 = .c (.int .i64 (.ofNat i))
    ∧ σ'.h σ.nxt=some ⟨[ev,dv],none⟩∧σ'.h (σ.nxt+1)=some ⟨lgC (legsB g.d g.d.length 0),some (0,0)⟩∧RtL σ'.h rv (rtE g i) (σ.nxt+1+1) σ'.nxt∧Fr σ σ'∧σ.nxt+1+1≤σ'.nxt) g.e.length ?_ ?_) ?_
  ·refine ⟨0,.nils,by omega,by omega,?_⟩
   simp (config:={ maxSteps:=1000000 }) (disch:=first | assumption | decide | omega) only [go_sem,z3,t1,t3,true_and]
   exact ⟨q0,q1,.nil,hf,hnx⟩
  ·rintro q tm σ' ⟨i,rv,rfl,hi,t1,t3,t8,t36,t37,t38,q0,q1,hO,hf,hnx⟩
   have hle:=hf.le
   simp (config:={ maxSteps:=1000000 }) (disch:=first | assumption | decide | omega) only [go_sem,z3,t1,t3,t8,t36,t37,t38,lt_ofNat]
   refine ifV_dec (fun hlt=>?_) (fun hlt=>?_)
   ·obtain ⟨b,o,c,rfl,C,A,hE0,-,hC,hA⟩:=hg.e.at hlt
    have hE1:=hf.ld hW hE0
    have hCk:=hC.kn
    have hAk:=hA.kn
    have hlenC:=hC.len
    have hnc:=hV.nc i hlt
    have hEl:=rtE_len hV i hi
    simp (config:={ maxSteps:=1000000 }) (disch:=first | assumption | decide | omega) only [go_sem,z3,t1,t3,t8,t36,t37,t38,hE1,hCk,hAk,hlenC]
    refine run_loop (fun q tm σ3=>∃ k rv,q=(ix g.e i).c.length - k∧k≤(ix g.e i).c.length∧Tr.getV tm 1 = .c (.ptr σ.nxt 0)∧Tr.getV tm 3 = .c (.mp (σ.nxt+1))∧Tr.getV tm 8 = .c rv∧Tr.getV tm 9 = .c (.int .i64 (.ofNat i))∧Tr.getV tm 36 = .c (.sl b o g.e.length c)∧Tr.getV tm 37 = .c (.int .i64 (.ofNat g.e.length))∧Tr.getV tm 38 = .c (.int .i64 (.ofNat i))
     ∧ Tr.getV tm 44 = .c C∧Tr.getV tm 45 = .c (.int .i64 (.ofNat (ix g.e i).c.length))∧Tr.getV tm 46 = .c (.int .i64 (.ofNat k))
     ∧ σ3.h σ.nxt=some ⟨[.sl b o g.e.length c,dv],none⟩∧σ3.h (σ.nxt+1)=some ⟨lgC (legsB g.d g.d.length 0),some (0,0)⟩∧RtL σ3.h rv (rtA g i (rtE g i) k) (σ.nxt+1+1) σ3.nxt∧Fr σ σ3∧σ.nxt+1+1≤σ3.nxt) (ix g.e i).c.length ?_ ?_
    ·refine ⟨0,rv,by omega,by omega,?_⟩
     simp (config:={ maxSteps:=1000000 }) (disch:=first | assumption | decide | omega) only [go_sem,z3,t1,t3,t8,t36,t37,t38,true_and]
     refine ⟨q0,q1,?_,by repeat (first | assumption | exact Fr.refl (by assumption) | exact Fr.up (by assumption) (by first | omega | (dsimp only; omega)) | exact Fr.up (Fr.refl (by assumption)) (by first | omega | (dsimp only; omega)) | refine Fr.set1 ?_ (by first | omega | (dsimp only; omega)) (by first | omega | (dsimp only; omega)) | refine Fr.del1 ?_ (by first | omega | (dsimp only; omega)) | refine Fr.newU ?_ (by first | omega | (dsimp only; omega))),by omega⟩
     exact OwnL.mono hO (fun b9 h1 h2=>by simp (disch:=omega) only [hset_ne]) (Nat.le_refl _) (by omega)
    ·rintro q tm3 σ3 ⟨k,rv3,rfl,hk,t1,t3,t8,t9,t36,t37,t38,t44,t45,t46,q0,q1,hO3,hf3,hn3⟩
     have hle3:=hf3.le
     simp (config:={ maxSteps:=1000000 }) (disch:=first | assumption | decide | omega) only [go_sem,z3,t1,t3,t8,t9,t36,t37,t38,t44,t45,t46,lt_ofNat]
     refine ifV_dec (fun hlk=>?_) (fun hlk=>?_)
     ·obtain ⟨b5,o5,c5,rfl,-,hc0⟩:=hC.ldh hlk
      have hc1:=hf3.ld hW hc0
      unfold c5B at hc1
      have hAl:=rtA_len g i (rtE g i) k
      have hA1:rtA g i (rtE g i) (k+1)=if (ix (ix g.e i).c k).h = .negSucc 0∧isLg g i k=false then rtA g i (rtE g i) k ++ [(.negSucc 0,.ofNat i,.ofNat k)] else rtA g i (rtE g i) k:=rfl
      generalize rtA g i (rtE g i) k=L at *
      have hlgd:hasLg (legsB g.d g.d.length 0) ⟨.ofNat i,.ofNat k⟩=isLg g i k:=rfl
      simp (config:={ maxSteps:=1000000 }) (disch:=first | assumption | decide | omega) only [go_sem,z3,t1,t3,t8,t9,t36,t37,t38,t44,t45,t46,hc1]
      refine gsV_dec (fun hh=>?_) (fun hh=>?_)
      ·cases hlg:isLg g i k with
       | true =>
        rw [hlg,if_neg (fun h=>by cases h.2)] at hA1
        rw [hlg] at hlgd
        simp (config:={ maxSteps:=1000000 }) (disch:=first | assumption | decide | omega) only [go_sem,z3,t1,t3,t8,t9,t36,t37,t38,t44,t45,t46,hh,q1,hlgd]
        refine ⟨(ix g.e i).c.length - (k+1),by omega,k+1,rv3,rfl,by omega,rfl,rfl,q0,?_,by repeat (first | assumption | exact Fr.refl (by assumption) | exact Fr.up (by assumption) (by first | omega | (dsimp only; omega)) | exact Fr.up (Fr.refl (by assumption)) (by first | omega | (dsimp only; omega)) | refine Fr.set1 ?_ (by first | omega | (dsimp only; omega)) (by first | omega | (dsimp only; omega)) | refine Fr.del1 ?_ (by first | omega | (dsimp only; omega)) | refine Fr.newU ?_ (by first | omega | (dsimp only; omega))),by omega⟩
        rw [hA1]; exact OwnL.mono hO3 (fun b9 h1 h2=>by simp (disch:=omega) only [hset_ne]) (Nat.le_refl _) (by omega)
       | false =>
        rw [hlg,if_pos ⟨hh,rfl⟩] at hA1
        rw [hlg] at hlgd
        rcases hO3.cases with ⟨rfl,rfl⟩ | ⟨hl0,bl,rfl,k1,k2,k3⟩
        ·simp (config:={ maxSteps:=1000000 }) (disch:=first | assumption | decide | omega) only [go_sem,z3,t1,t3,t8,t9,t36,t37,t38,t44,t45,t46,hh,q1,hlgd]
         refine ⟨(ix g.e i).c.length - (k+1),by omega,k+1,_,rfl,by omega,rfl,rfl,q0,?_,by repeat (first | assumption | exact Fr.refl (by assumption) | exact Fr.up (by assumption) (by first | omega | (dsimp only; omega)) | exact Fr.up (Fr.refl (by assumption)) (by first | omega | (dsimp only; omega)) | refine Fr.set1 ?_ (by first | omega | (dsimp only; omega)) (by first | omega | (dsimp only; omega)) | refine Fr.del1 ?_ (by first | omega | (dsimp only; omega)) | refine Fr.newU ?_ (by first | omega | (dsimp only; omega))),by omega⟩
         rw [hA1]; exact RtL.push (l:=[]) (by omega) rfl _ (by omega)
        ·have hrl:=rt_lenC L
         have hrt:=rt_take L
         simp (config:={ maxSteps:=1000000 }) (disch:=first | assumption | decide | omega) only [go_sem,z3,t1,t3,t8,t9,t36,t37,t38,t44,t45,t46,hh,q1,hlgd,k1]
         refine ⟨(ix g.e i).c.length - (k+1),by omega,k+1,_,rfl,by omega,rfl,rfl,q0,?_,by repeat (first | assumption | exact Fr.refl (by assumption) | exact Fr.up (by assumption) (by first | omega | (dsimp only; omega)) | exact Fr.up (Fr.refl (by assumption)) (by first | omega | (dsimp only; omega)) | refine Fr.set1 ?_ (by first | omega | (dsimp only; omega)) (by first | omega | (dsimp only; omega)) | refine Fr.del1 ?_ (by first | omega | (dsimp only; omega)) | refine Fr.newU ?_ (by first | omega | (dsimp only; omega))),by omega⟩
         rw [hA1]; exact RtL.push (by omega) (by rw [hrt]; rfl) _ (by omega)
      ·rw [if_neg (fun h=>hh h.1)] at hA1
       simp (config:={ maxSteps:=1000000 }) (disch:=first | assumption | decide | omega) only [go_sem,z3,t1,t3,t8,t9,t36,t37,t38,t44,t45,t46,hh]
       refine ⟨(ix g.e i).c.length - (k+1),by omega,k+1,rv3,rfl,by omega,rfl,rfl,q0,q1,?_,by repeat (first | assumption | exact Fr.refl (by assumption) | exact Fr.up (by assumption) (by first | omega | (dsimp only; omega)) | exact Fr.up (Fr.refl (by assumption)) (by first | omega | (dsimp only; omega)) | refine Fr.set1 ?_ (by first | omega | (dsimp only; omega)) (by first | omega | (dsimp only; omega)) | refine Fr.del1 ?_ (by first | omega | (dsimp only; omega)) | refine Fr.newU ?_ (by first | omega | (dsimp only; omega))),by omega⟩
       rw [hA1]; exact OwnL.mono hO3 (fun b9 h1 h2=>by simp (disch:=omega) only [hset_ne]) (Nat.le_refl _) (by omega)
     ·have:k=(ix g.e i).c.length:=by omega
      subst this
      simp (config:={ maxSteps:=1000000 }) (disch:=first | assumption | decide | omega) only [go_sem,z3,t1,t3,t8,t9,t36,t37,t38]
      exact ⟨g.e.length - (i+1),by omega,i+1,rv3,rfl,by omega,rfl,rfl,q0,q1,hO3,hf3,hn3⟩
   ·have:i=g.e.length:=by omega
    subst this
    simp (config:={ maxSteps:=1000000 }) (disch:=first | assumption | decide | omega) only [go_sem,z3,true_and]
    exact ⟨rv,t1,t8,q0,hO,hf,hnx⟩
  ·rintro _ tm σ' ⟨rfl,rv,t1,t8,q0,hO,hf,hnx⟩
   have hle:=hf.le
   simp (config:={ maxSteps:=1000000 }) (disch:=first | assumption | decide | omega) only [go_sem,z3,t1,t8,ld_blk q0,hdk,hlenD]
   refine run_loop (fun q tm σ'=>∃ d rv,q=g.d.length - d∧d≤g.d.length∧Tr.getV tm 1 = .c (.ptr σ.nxt 0)∧Tr.getV tm 8 = .c rv∧Tr.getV tm 71 = .c dv∧Tr.getV tm 72 = .c (.int .i64 (.ofNat g.d.length))∧Tr.getV tm 73 = .c (.int .i64 (.ofNat d))∧σ'.h σ.nxt=some ⟨[ev,dv],none⟩∧RtL σ'.h rv (rtD g d) (σ.nxt+1+1) σ'.nxt∧Fr σ σ'∧σ.nxt+1+1≤σ'.nxt) g.d.length ?_ ?_
   ·refine ⟨0,rv,by omega,by omega,?_⟩
    simp (config:={ maxSteps:=1000000 }) (disch:=first | assumption | decide | omega) only [go_sem,z3,t1,t8,true_and]
    exact ⟨q0,hO,hf,hnx⟩
   ·rintro q tm σ' ⟨d,rv,rfl,hd,t1,t8,t71,t72,t73,q0,hO,hf,hnx⟩
    have hle:=hf.le
    simp (config:={ maxSteps:=1000000 }) (disch:=first | assumption | decide | omega) only [go_sem,z3,t1,t8,t71,t72,t73,lt_ofNat]
    refine ifV_dec (fun hlt=>?_) (fun hlt=>?_)
    ·obtain ⟨bd,od,cd,rfl,T,hT4,-,hL⟩:=hg.d.at hlt
     have hT:=hf.ld hW hT4
     have hTk:=hL.kn
     have hlenL:=hL.len
     have hDl:=rtD_len hV d
     have hD1:rtD g (d+1)=if 0<(ix g.d d).l.length∧holdL g.e (ix (ix g.d d).l 0) = .negSucc 0 then rtD g d ++ [(.ofNat d,.ofNat 0,.ofNat 0)] else rtD g d:=rfl
     generalize rtD g d=L at *
     simp (config:={ maxSteps:=1000000 }) (disch:=first | assumption | decide | omega) only [go_sem,z3,t1,t8,t71,t72,t73,hT,hTk,hlenL,lt_ofNat]
     refine gsV_dec (fun hl=>?_) (fun hl=>?_)
     ·obtain ⟨b2,o2,c2,rfl,-,hle2,hlk2⟩:=hL.at hl
      obtain ⟨e,m,hx,he,hm⟩:=hV.l d hlt 0 hl
      rw [hx] at hle2 hlk2 hD1
      have hle2:=hf.ld hW hle2
      have hlk2:=hf.ld hW hlk2
      obtain ⟨b,o,c,rfl,C,A,-,hC0,hC,-⟩:=hg.e.at he
      obtain ⟨b5,o5,c5,rfl,hh0,-⟩:=hC.ldh hm
      have hC1:=hf.ld hW hC0
      have hh1:=hf.ld hW hh0
      have hb2:=hf.wf.ld_lt hle2
      have hb:=hf.wf.ld_lt hC1
      have hb5:=hf.wf.ld_lt hh1
      have hq:=hf.wf.lt q0
      simp (config:={ maxSteps:=1000000 }) (disch:=first | assumption | decide | omega) only [go_sem,z3,t1,t8,t71,t72,t73,ld_blk q0,hek,hle2,hlk2,hC1,hh1,hl,hTk,hlenL]
      refine ifV_dec (fun hh=>?_) (fun hh=>?_)
      ·rw [if_pos ⟨hl,hh⟩] at hD1
       rcases hO.cases with ⟨rfl,rfl⟩ | ⟨hl0,bl,rfl,k1,k2,k3⟩
       ·simp (config:={ maxSteps:=1000000 }) (disch:=first | assumption | decide | omega) only [go_sem,z3,t1,t8,t71,t72,t73]
        refine ⟨g.d.length - (d+1),by omega,d+1,_,rfl,by omega,rfl,rfl,q0,?_,by repeat (first | assumption | exact Fr.refl (by assumption) | exact Fr.up (by assumption) (by first | omega | (dsimp only; omega)) | exact Fr.up (Fr.refl (by assumption)) (by first | omega | (dsimp only; omega)) | refine Fr.set1 ?_ (by first | omega | (dsimp only; omega)) (by first | omega | (dsimp only; omega)) | refine Fr.del1 ?_ (by first | omega | (dsimp only; omega)) | refine Fr.newU ?_ (by first | omega | (dsimp only; omega))),by omega⟩
        rw [hD1]; exact RtL.push (l:=[]) (by omega) rfl _ (by omega)
       ·have hrl:=rt_lenC L
        have hrt:=rt_take L
        simp (config:={ maxSteps:=1000000 }) (disch:=first | assumption | decide | omega) only [go_sem,z3,t1,t8,t71,t72,t73,k1]
        refine ⟨g.d.length - (d+1),by omega,d+1,_,rfl,by omega,rfl,rfl,q0,?_,by repeat (first | assumption | exact Fr.refl (by assumption) | exact Fr.up (by assumption) (by first | omega | (dsimp only; omega)) | exact Fr.up (Fr.refl (by assumption)) (by first | omega | (dsimp only; omega)) | refine Fr.set1 ?_ (by first | omega | (dsimp only; omega)) (by first | omega | (dsimp only; omega)) | refine Fr.del1 ?_ (by first | omega | (dsimp only; omega)) | refine Fr.newU ?_ (by first | omega | (dsimp only; omega))),by omega⟩
        rw [hD1]; exact RtL.push (by omega) (by rw [hrt]; rfl) _ (by omega)
      ·rw [if_neg (fun h=>hh h.2)] at hD1
       simp (config:={ maxSteps:=1000000 }) (disch:=first | assumption | decide | omega) only [go_sem,z3,t1,t8,t71,t72,t73]
       refine ⟨g.d.length - (d+1),by omega,d+1,rv,rfl,by omega,rfl,rfl,q0,?_,by repeat (first | assumption | exact Fr.refl (by assumption) | exact Fr.up (by assumption) (by first | omega | (dsimp only; omega)) | exact Fr.up (Fr.refl (by assumption)) (by first | omega | (dsimp only; omega)) | refine Fr.set1 ?_ (by first | omega | (dsimp only; omega)) (by first | omega | (dsimp only; omega)) | refine Fr.del1 ?_ (by first | omega | (dsimp only; omega)) | refine Fr.newU ?_ (by first | omega | (dsimp only; omega))),by omega⟩
       rw [hD1]; exact OwnL.mono hO (fun b9 h1 h2=>by simp (disch:=omega) only [hset_ne]) (Nat.le_refl _) (by omega)
     ·rw [if_neg (fun h=>hl h.1)] at hD1
      simp (config:={ maxSteps:=1000000 }) (disch:=first | assumption | decide | omega) only [go_sem,z3,t1,t8,t71,t72,t73,hl,hTk,hlenL]
      refine ⟨g.d.length - (d+1),by omega,d+1,rv,rfl,by omega,rfl,rfl,q0,?_,by repeat (first | assumption | exact Fr.refl (by assumption) | exact Fr.up (by assumption) (by first | omega | (dsimp only; omega)) | exact Fr.up (Fr.refl (by assumption)) (by first | omega | (dsimp only; omega)) | refine Fr.set1 ?_ (by first | omega | (dsimp only; omega)) (by first | omega | (dsimp only; omega)) | refine Fr.del1 ?_ (by first | omega | (dsimp only; omega)) | refine Fr.newU ?_ (by first | omega | (dsimp only; omega))),by omega⟩
      rw [hD1]; exact OwnL.mono hO (fun b9 h1 h2=>by simp (disch:=omega) only [hset_ne]) (Nat.le_refl _) (by omega)
    ·have:d=g.d.length:=by omega
     subst this
     simp (config:={ maxSteps:=1000000 }) (disch:=first | assumption | decide | omega) only [go_sem,z3,t8]
     exact ⟨rv,rfl,OwnL.mono hO (fun _ _ _=>rfl) (by omega) (Nat.le_refl _),hf⟩

set_option maxRecDepth 10000 in
theorem dclean_x {σ:St} (hW:WF σ) (q:Rat) (hq:Sz q):CallX EN 142 [.agg [.bool (rn q),.str (rs q),.str (rd q)]] σ fun r σ'=>r=rV q∧Fr σ σ':=by
 refine call_fn (O_dividend_clean _ _) F_dividend_clean ?_
 unfold a_dividend_clean
 have hz:=Sz.zero
 have hq2:=hq.two
 simp (config:={ maxSteps:=1000000 }) (disch:=first | assumption | decide | omega) only [go_sem,z3,hq,hz]
 refine ⟨?_,by repeat (first | assumption | exact Fr.refl (by assumption) | exact Fr.up (by assumption) (by first | omega | (dsimp only; omega)) | exact Fr.up (Fr.refl (by assumption)) (by first | omega | (dsimp only; omega)) | refine Fr.set1 ?_ (by first | omega | (dsimp only; omega)) (by first | omega | (dsimp only; omega)) | refine Fr.del1 ?_ (by first | omega | (dsimp only; omega)) | refine Fr.newU ?_ (by first | omega | (dsimp only; omega)))⟩
 unfold rV
 rw [Rat.add_zero]
section
variable {m n1 n2 n3 nv n5 n6 n7:B}
set_option maxRecDepth 10000 in
theorem net_x {σ:St} (hW:WF σ) {p:Nat→Prop} (L:List (List Rat)) (hT:HTab p σ.h nv L) (hL:SzT L) (hm:m.kn=true) (k1:n1.kn=true) (k2:n2.kn=true) (k3:n3.kn=true) (k5:n5.kn=true) (k6:n6.kn=true) (k7:n7.kn=true) (i k:Nat) :
  CallX EN 92 [.agg [m,n1,n2,n3,nv,n5,n6,n7],.agg [.int .i64 (.ofNat i),.int .i64 (.ofNat k)]] σ fun r σ'=>r=rV (paidQ L i k)∧Fr σ σ':=by
 refine call_fn (O_dividend_net _ _) F_dividend_net ?_
 unfold a_dividend_net
 obtain ⟨R,hR,hR2⟩:=hT
 have hlen:=hR.len
 have hkn:=hR.kn
 simp (config:={ maxSteps:=1000000 }) (disch:=first | assumption | decide | omega) only [go_sem,z3,hlen,hkn,hm,k1,k2,k3,k5,k6,k7,lt_ofNat]
 refine gsV_dec (fun hi=>?_) (fun hi=>?_)
 ·obtain ⟨b,o,c,rfl,-,hld⟩:=hR.pos (by omega)
  obtain ⟨l1,l2⟩:=ld_one (hld i hi)
  have hb:=hW.ld_lt l1
  have hRi:=hR2 i hi
  have hlen2:=hRi.len
  simp (config:={ maxSteps:=1000000 }) (disch:=first | assumption | decide | omega) only [go_sem,z3,hlen,hkn,hm,k1,k2,k3,k5,k6,k7,hi,l1,l2,hlen2,lt_ofNat]
  refine ifV_dec (fun hk=>?_) (fun hk=>?_)
  ·obtain ⟨b2,o2,c2,e2,-,hld2⟩:=hRi.pos (by omega)
   have hld2:=hld2 k hk
   have hb2:=hW.ld_lt hld2
   have hz:Sz (ix (ix L i) k):=hL i hi k hk
   unfold ratC at hld2
   rw [e2] at l1
   simp (config:={ maxSteps:=1000000 }) (disch:=first | assumption | decide | omega) only [go_sem,z3,hkn,hm,k1,k2,k3,k5,k6,k7,l1,hld2]
   refine CallX.st (Fr σ) (by repeat (first | assumption | exact Fr.refl (by assumption) | exact Fr.up (by assumption) (by first | omega | (dsimp only; omega)) | exact Fr.up (Fr.refl (by assumption)) (by first | omega | (dsimp only; omega)) | refine Fr.set1 ?_ (by first | omega | (dsimp only; omega)) (by first | omega | (dsimp only; omega)) | refine Fr.del1 ?_ (by first | omega | (dsimp only; omega)) | refine Fr.newU ?_ (by first | omega | (dsimp only; omega)))) fun hF=>?_
   refine (dclean_x hF.wf _ hz).mono ?_
   rintro _ σ2 ⟨rfl,hf2⟩
   unfold rV
   have hF2:=hF.trans hf2
   have q4:=hf2.get hF.wf (hset_get _ _ _)
   have hle2:σ.nxt+1+1+1≤σ2.nxt:=hf2.le
   simp (config:={ maxSteps:=1000000 }) (disch:=first | assumption | decide | omega) only [go_sem,z3,sto_blk q4]
   refine ⟨?_,by repeat (first | assumption | exact Fr.refl (by assumption) | exact Fr.up (by assumption) (by first | omega | (dsimp only; omega)) | exact Fr.up (Fr.refl (by assumption)) (by first | omega | (dsimp only; omega)) | refine Fr.set1 ?_ (by first | omega | (dsimp only; omega)) (by first | omega | (dsimp only; omega)) | refine Fr.del1 ?_ (by first | omega | (dsimp only; omega)) | refine Fr.newU ?_ (by first | omega | (dsimp only; omega)))⟩
   unfold paidQ
   rw [if_pos hi,if_pos hk]
  ·simp (config:={ maxSteps:=1000000 }) (disch:=first | assumption | decide | omega) only [go_sem,z3,hm]
   refine ⟨?_,?_⟩
   ·unfold paidQ rV
    rw [if_pos hi,if_neg hk]
   ·repeat (first | assumption | exact Fr.refl (by assumption) | exact Fr.up (by assumption) (by first | omega | (dsimp only; omega)) | exact Fr.up (Fr.refl (by assumption)) (by first | omega | (dsimp only; omega)) | refine Fr.set1 ?_ (by first | omega | (dsimp only; omega)) (by first | omega | (dsimp only; omega)) | refine Fr.del1 ?_ (by first | omega | (dsimp only; omega)) | refine Fr.newU ?_ (by first | omega | (dsimp only; omega)))
 ·simp (config:={ maxSteps:=1000000 }) (disch:=first | assumption | decide | omega) only [go_sem,z3,hi,hm,hkn,hlen]
  refine ⟨?_,?_⟩
  ·unfold paidQ rV
   rw [if_neg hi]
  ·repeat (first | assumption | exact Fr.refl (by assumption) | exact Fr.up (by assumption) (by first | omega | (dsimp only; omega)) | exact Fr.up (Fr.refl (by assumption)) (by first | omega | (dsimp only; omega)) | refine Fr.set1 ?_ (by first | omega | (dsimp only; omega)) (by first | omega | (dsimp only; omega)) | refine Fr.del1 ?_ (by first | omega | (dsimp only; omega)) | refine Fr.newU ?_ (by first | omega | (dsimp only; omega)))
end
def GoodR (g:Grp) (x:Rt):Prop:=(∃ i k:Nat,x=(.negSucc 0,.ofNat i,.ofNat k))∨∃ d:Nat,d<g.d.length∧x=(.ofNat d,.ofNat 0,.ofNat 0)
theorem rtA_good {g:Grp} {i:Nat} {acc:List Rt} (h : ∀ x∈acc,GoodR g x) : ∀ k,∀ x∈rtA g i acc k,GoodR g x
 | 0=>h
 | k+1=>fun x hx=>by
  unfold rtA at hx
  split at hx
  ·rcases List.mem_append.mp hx with hx | hx
   ·exact rtA_good h k x hx
   ·rw [List.mem_singleton] at hx; exact .inl ⟨i,k,hx⟩
  ·exact rtA_good h k x hx
theorem rtE_good (g:Grp) : ∀ i,∀ x∈rtE g i,GoodR g x
 | 0=>fun x hx=>by unfold rtE at hx; cases hx
 | i+1=>rtA_good (rtE_good g i) _
theorem rtD_good (g:Grp) : ∀ d,d≤g.d.length→∀ x∈rtD g d,GoodR g x
 | 0,_=>rtE_good g _
 | d+1,hd=>fun x hx=>by
  unfold rtD at hx
  split at hx
  ·rcases List.mem_append.mp hx with hx | hx
   ·exact rtD_good g d (by omega) x hx
   ·rw [List.mem_singleton] at hx; exact .inr ⟨d,by omega,hx⟩
  ·exact rtD_good g d (by omega) x hx
theorem rightsL_good (g:Grp) {j:Nat} (hj:j<(rightsL g).length):GoodR g (ix (rightsL g) j):=rtD_good g _ (Nat.le_refl _) _ (ix_mem hj)
def sumLg (L:List (List Rat)) (l:List Ins.Lg):Nat→Rat
 | 0=>0
 | n+1=>sumLg L l n+paidQ L (ix l n).e.toNat (ix l n).k.toNat
def totV (g:Grp) (L:List (List Rat)) (x:Rt):Rat:=if x.1<0 then paidQ L x.2.1.toNat x.2.2.toNat else sumLg L (ix g.d x.1.toNat).l (ix g.d x.1.toNat).l.length
def SmT (L:List (List Rat)):Prop:=∀ i k,Sm 4 (paidQ L i k)
theorem SmT.sum {L:List (List Rat)} (h:SmT L) (l:List Ins.Lg) : ∀ n,Sm (5*n+4) (sumLg L l n)
 | 0=>(xsm_int (i:=0) (k:=3) (by decide) (by decide)).mono (by omega)
 | n+1=>((h.sum l n).add (h _ _)).mono (by omega)
theorem SmT.tot {g:Grp} (hV:VG g) {L:List (List Rat)} (h:SmT L) {x:Rt} (hx:GoodR g x):Sm 44 (totV g L x):=by
 rcases hx with ⟨i,k,rfl⟩ | ⟨d,hd,rfl⟩
 ·exact (h _ _).mono (by omega)
 ·have:=hV.nl d hd
  exact (h.sum _ _).mono (by show 5*(ix g.d d).l.length+4≤44; omega)
theorem RtL.at {h:Tr Bk} {v:B} {l:List Rt} {lo hi:Nat} (ho:RtL h v l lo hi) {j:Nat} (hj:j<l.length) : ∃ b o c,v = .sl b o l.length c∧b<hi∧ld h b (o+j*3) 3 true=some (.agg (rtB (ix l j))):=by
 obtain ⟨b,o,c,e,hp,hld⟩:=(OwnL.hlp (p:=fun b=>b<hi) ho (fun _=>rfl) (by decide) (fun _ _=>rfl) fun b _ h=>h).pos (by omega)
 exact ⟨b,o,c,e,hp,hld j hj⟩
def totR (g:Grp) (L:List (List Rat)) (k:Nat):Rat:=totV g L (ix (rightsL g) k)
section
variable {m n1 n2 n3 nv n5 n6 n7:B}
set_option maxRecDepth 10000 in
theorem totals_x {σ:St} (hW:WF σ) {p p' : Nat→Prop} {ev dv:B} (g:Grp) (hg:HGrp p' σ.h ev dv g) (h0:chkG g=0) (L:List (List Rat)) (hT:HTab p σ.h nv L) (hL:SzT L) (hM:SmT L) (hm:m.kn=true) (k1:n1.kn=true) (k2:n2.kn=true) (k3:n3.kn=true) (k5:n5.kn=true) (k6:n6.kn=true) (k7:n7.kn=true) :
  CallX EN 54 [.agg [ev,dv],.agg [m,n1,n2,n3,nv,n5,n6,n7]] σ fun r σ'=>∃ ov,r = .c ov∧OwnL σ'.h ov (rightsL g).length (fun k=>ratC (totR g L k)) 3 71 σ.nxt σ'.nxt∧Fr σ σ':=by
 refine call_fn (O_dividend_totals _ _) F_dividend_totals ?_
 unfold a_dividend_totals
 have hV:=chkG_valid h0
 have hek:=hg.e.kn
 have hdk:=hg.d.kn
 have hnk:=hT.choose_spec.1.kn
 simp (config:={ maxSteps:=1000000 }) (disch:=first | assumption | decide | omega) only [go_sem,z3,hek,hdk,hnk,hm,k1,k2,k3,k5,k6,k7]
 refine CallX.st (Fr σ) (by repeat (first | assumption | exact Fr.refl (by assumption) | exact Fr.up (by assumption) (by first | omega | (dsimp only; omega)) | exact Fr.up (Fr.refl (by assumption)) (by first | omega | (dsimp only; omega)) | refine Fr.set1 ?_ (by first | omega | (dsimp only; omega)) (by first | omega | (dsimp only; omega)) | refine Fr.del1 ?_ (by first | omega | (dsimp only; omega)) | refine Fr.newU ?_ (by first | omega | (dsimp only; omega)))) fun hF=>?_
 refine (rights_x hF.wf g (hg.fr hW hF) h0).mono ?_
 rintro _ σ1 ⟨rv,rfl,hR,hf1⟩
 have hF1:=hF.trans hf1
 have hle1:=hF1.le
 have q0:σ1.h σ.nxt=some ⟨[ev,dv],none⟩:=hf1.get hF.wf ((hset_ne _ _ _ _ (by omega)).trans (hset_get _ _ _))
 have q1:σ1.h (σ.nxt+1)=some ⟨[m,n1,n2,n3,nv,n5,n6,n7],none⟩:=hf1.get hF.wf (hset_get _ _ _)
 have hnx:σ.nxt+1+1≤σ1.nxt:=hf1.le
 have hlenR:=OwnL.len hR
 have hRl:=rtD_len hV g.d.length
 have hnd:=hV.nd
 have hRl:(rightsL g).length≤300:=by
  have h9:(rightsL g).length≤192+g.d.length:=hRl
  omega
 simp (config:={ maxSteps:=1000000 }) (disch:=first | assumption | decide | omega) only [go_sem,z3,hlenR]
 refine run_loop (fun q tm σ'=>∃ j ov,q=(rightsL g).length - j∧j≤(rightsL g).length∧Tr.getV tm 2 = .c (.ptr σ.nxt 0)∧Tr.getV tm 3 = .c (.ptr (σ.nxt+1) 0)∧Tr.getV tm 5 = .c ov∧Tr.getV tm 12 = .c rv∧Tr.getV tm 13 = .c (.int .i64 (.ofNat (rightsL g).length))∧Tr.getV tm 14 = .c (.int .i64 (.ofNat j))
  ∧ OwnL σ'.h ov j (fun k=>ratC (totR g L k)) 3 71 σ1.nxt σ'.nxt∧Fr σ1 σ') (rightsL g).length ?_ ?_
 ·refine ⟨0,.nils,by omega,by omega,?_⟩
  simp (config:={ maxSteps:=1000000 }) (disch:=first | assumption | decide | omega) only [go_sem,z3,true_and]
  exact ⟨.nil,Fr.refl hF1.wf⟩
 ·rintro q tm σ' ⟨j,ov,rfl,hj,t2,t3,t5,t12,t13,t14,hO,hf⟩
  have hle:=hf.le
  simp (config:={ maxSteps:=1000000 }) (disch:=first | assumption | decide | omega) only [go_sem,z3,t2,t3,t5,t12,t13,t14,lt_ofNat]
  refine ifV_dec (fun hlt=>?_) (fun hlt=>?_)
  ·obtain ⟨b,o,c,rfl,hb,hld⟩:=hR.at hlt
   have hld:=hf.ld hF1.wf hld
   have q0':=hf.get hF1.wf q0
   have q1':=hf.get hF1.wf q1
   have htot:totR g L j=totV g L (ix (rightsL g) j):=rfl
   have hok:=hO.kn
   rcases rightsL_good g hlt with ⟨i,k,hx⟩ | ⟨d,hd,hx⟩
   ·rw [hx] at hld htot
    have hneg:decide (Int.negSucc 0<Int.ofNat 0)=true:=rfl
    have htot:totR g L j=paidQ L i k:=htot
    unfold rtB at hld
    simp (config:={ maxSteps:=1000000 }) (disch:=first | assumption | decide | omega) only [go_sem,z3,t2,t3,t5,t12,t13,t14,hld,hneg,ld_blk q1',hnk,hm,k1,k2,k3,k5,k6,k7,hok]
    refine CallX.st (Fr σ') (by have hF:=Fr.refl hf.wf; repeat (first | assumption | exact Fr.refl (by assumption) | exact Fr.up (by assumption) (by first | omega | (dsimp only; omega)) | exact Fr.up (Fr.refl (by assumption)) (by first | omega | (dsimp only; omega)) | refine Fr.set1 ?_ (by first | omega | (dsimp only; omega)) (by first | omega | (dsimp only; omega)) | refine Fr.del1 ?_ (by first | omega | (dsimp only; omega)) | refine Fr.newU ?_ (by first | omega | (dsimp only; omega)))) fun hF2=>?_
    refine (net_x hF2.wf L (hT.fr hW (hF1.trans (hf.trans hF2))) hL hm k1 k2 k3 k5 k6 k7 i k).mono ?_
    rintro _ σ2 ⟨rfl,hf2⟩
    have hF3:=hF2.trans hf2
    have hle3:=hF3.le
    have hF13:=hf.trans hF3
    unfold rV
    rw [← htot]
    have hz:=(hL.paid i k).two
    have hb1:b<σ2.nxt:=by have:=hF1.le; have:=hf2.le; omega
    rcases hO with ⟨rfl,rfl⟩ | ⟨hj0,bo,rfl,e1,e2,e3⟩
    ·simp (config:={ maxSteps:=1000000 }) (disch:=first | assumption | decide | omega) only [go_sem,z3,t2,t3,t5,t12,t13,t14]
     refine ⟨(rightsL g).length - 1,by omega,1,_,rfl,by omega,rfl,rfl,?_,?_⟩
     ·exact OwnL.snoc (n:=0) (G:=fun k=>ratC (totR g L k)) (fun _ _=>rfl) (by omega) rfl (fun _ _=>rfl) rfl _ (by omega)
     ·repeat (first | assumption | exact Fr.refl (by assumption) | exact Fr.up (by assumption) (by first | omega | (dsimp only; omega)) | exact Fr.up (Fr.refl (by assumption)) (by first | omega | (dsimp only; omega)) | refine Fr.set1 ?_ (by first | omega | (dsimp only; omega)) (by first | omega | (dsimp only; omega)) | refine Fr.del1 ?_ (by first | omega | (dsimp only; omega)) | refine Fr.newU ?_ (by first | omega | (dsimp only; omega)))
    ·have e1' : σ2.h bo=some ⟨rats j (fun k=>totR g L k),some (3,71)⟩:=hF3.get hf.wf e1
     have hl3:=len_rats j fun k=>totR g L k
     simp (config:={ maxSteps:=1000000 }) (disch:=first | assumption | decide | omega) only [go_sem,z3,t2,t3,t5,t12,t13,t14,e1']
     refine ⟨(rightsL g).length - (j+1),by omega,j+1,_,rfl,by omega,rfl,rfl,?_,?_⟩
     ·refine OwnL.snoc (n:=j) (G:=fun k=>ratC (totR g L k)) (fun _ _=>rfl) (by omega) ?_ (fun _ _=>rfl) rfl _ (by omega)
      rw [← rats_snoc]; rfl
     ·repeat (first | assumption | exact Fr.refl (by assumption) | exact Fr.up (by assumption) (by first | omega | (dsimp only; omega)) | exact Fr.up (Fr.refl (by assumption)) (by first | omega | (dsimp only; omega)) | refine Fr.set1 ?_ (by first | omega | (dsimp only; omega)) (by first | omega | (dsimp only; omega)) | refine Fr.del1 ?_ (by first | omega | (dsimp only; omega)) | refine Fr.newU ?_ (by first | omega | (dsimp only; omega)))
   ·rw [hx] at hld htot
    have hneg:decide (Int.ofNat d<Int.ofNat 0)=false:=decide_eq_false (by simp only [Int.ofNat_eq_natCast]; omega)
    unfold rtB at hld
    obtain ⟨bd,od,cd,rfl,T,-,hT0,hLg⟩:=hg.d.at hd
    have hT1:=(hF1.trans hf).ld hW hT0
    have hTk:=hLg.kn
    have hbd:=hf.wf.ld_lt hT1
    have hlenL:=hLg.len
    simp (config:={ maxSteps:=1000000 }) (disch:=first | assumption | decide | omega) only [go_sem,z3,t2,t3,t5,t12,t13,t14,hld,hneg,ld_blk q0',hek,hdk,hT1,hTk,hlenL,hok]
    have hnl:=hV.nl d hd
    have hsum:totR g L j=sumLg L (ix g.d d).l (ix g.d d).l.length:=htot
    refine RunX.mono (Q:=fun e tm σ3=>e = .exit 2∧Tr.getV tm 2 = .c (.ptr σ.nxt 0)∧Tr.getV tm 3 = .c (.ptr (σ.nxt+1) 0)∧Tr.getV tm 5 = .c ov∧Tr.getV tm 8 = .c (.ptr (σ'.nxt+1) 0)∧Tr.getV tm 12 = .c (.sl b o (rightsL g).length c)∧Tr.getV tm 13 = .c (.int .i64 (.ofNat (rightsL g).length))∧Tr.getV tm 14 = .c (.int .i64 (.ofNat j))
     ∧ σ3.h (σ'.nxt+1)=some ⟨ratC (totR g L j),none⟩∧Fr σ' σ3∧σ'.nxt+1+1≤σ3.nxt)
     (run_loop (fun q tm σ3=>∃ n,q=(ix g.d d).l.length - n∧n≤(ix g.d d).l.length∧Tr.getV tm 2 = .c (.ptr σ.nxt 0)∧Tr.getV tm 3 = .c (.ptr (σ.nxt+1) 0)∧Tr.getV tm 5 = .c ov∧Tr.getV tm 8 = .c (.ptr (σ'.nxt+1) 0)∧Tr.getV tm 12 = .c (.sl b o (rightsL g).length c)∧Tr.getV tm 13 = .c (.int .i64 (.ofNat (rightsL g).length))∧Tr.getV tm 14 = .c (.int .i64 (.ofNat j))
      ∧ Tr.getV tm 35 = .c T∧Tr.getV tm 36 = .c (.int .i64 (.ofNat (ix g.d d).l.length))∧Tr.getV tm 37 = .c (.int .i64 (.ofNat n))
      ∧ σ3.h (σ'.nxt+1)=some ⟨ratC (sumLg L (ix g.d d).l n),none⟩∧Fr σ' σ3∧σ'.nxt+1+1≤σ3.nxt) (ix g.d d).l.length ?_ ?_) ?_
    ·refine ⟨0,by omega,by omega,?_⟩
     simp (config:={ maxSteps:=1000000 }) (disch:=first | assumption | decide | omega) only [go_sem,z3,t2,t3,t5,t12,t13,t14,true_and]
     refine ⟨rfl,?_,by omega⟩
     have hFr:=Fr.refl hf.wf
     repeat (first | assumption | exact Fr.refl (by assumption) | exact Fr.up (by assumption) (by first | omega | (dsimp only; omega)) | exact Fr.up (Fr.refl (by assumption)) (by first | omega | (dsimp only; omega)) | refine Fr.set1 ?_ (by first | omega | (dsimp only; omega)) (by first | omega | (dsimp only; omega)) | refine Fr.del1 ?_ (by first | omega | (dsimp only; omega)) | refine Fr.newU ?_ (by first | omega | (dsimp only; omega)))
    ·rintro q tm3 σ3 ⟨n,rfl,hn,t2,t3,t5,t8,t12,t13,t14,t35,t36,t37,s8,hf3,hn3⟩
     have hle3:=hf3.le
     simp (config:={ maxSteps:=1000000 }) (disch:=first | assumption | decide | omega) only [go_sem,z3,t2,t3,t5,t8,t12,t13,t14,t35,t36,t37,lt_ofNat]
     refine ifV_dec (fun hln=>?_) (fun hln=>?_)
     ·obtain ⟨b2,o2,c2,rfl,hl2,-,-⟩:=hLg.at hln
      obtain ⟨e,k,hx2,he,hk⟩:=hV.l d hd n hln
      rw [hx2] at hl2
      have hl3:=(hF1.trans (hf.trans hf3)).ld hW hl2
      have hs1:sumLg L (ix g.d d).l (n+1)=sumLg L (ix g.d d).l n+paidQ L e k:=by
       show sumLg L (ix g.d d).l n+paidQ L (ix (ix g.d d).l n).e.toNat (ix (ix g.d d).l n).k.toNat=_
       rw [hx2]; rfl
      have q13:=hf3.get hf.wf q1'
      have hzs:Sz (sumLg L (ix g.d d).l n):=(hM.sum _ _).mono (by unfold szK; omega)
      have hzp:Sz (paidQ L e k):=hL.paid e k
      have hq:=hf3.wf.lt q13
      unfold ratC at s8
      simp (config:={ maxSteps:=1000000 }) (disch:=first | assumption | decide | omega) only [go_sem,z3,t2,t3,t5,t8,t12,t13,t14,t35,t36,t37,hl3,ld_blk s8,ld_blk q13,hnk,hm,k1,k2,k3,k5,k6,k7]
      refine CallX.st (Fr σ3) (by have hF:=Fr.refl hf3.wf; repeat (first | assumption | exact Fr.refl (by assumption) | exact Fr.up (by assumption) (by first | omega | (dsimp only; omega)) | exact Fr.up (Fr.refl (by assumption)) (by first | omega | (dsimp only; omega)) | refine Fr.set1 ?_ (by first | omega | (dsimp only; omega)) (by first | omega | (dsimp only; omega)) | refine Fr.del1 ?_ (by first | omega | (dsimp only; omega)) | refine Fr.newU ?_ (by first | omega | (dsimp only; omega)))) fun hF4=>?_
      refine (net_x hF4.wf L (hT.fr hW (hF1.trans (hf.trans (hf3.trans hF4)))) hL hm k1 k2 k3 k5 k6 k7 e k).mono ?_
      rintro _ σ4 ⟨rfl,hf4⟩
      have hF5:=hF4.trans hf4
      have hle5:=hF5.le
      have hF35:=hf3.trans hF5
      have s84:=hF5.get hf3.wf s8
      unfold rV
      have hzp2:=hzp.two
      have hzs2:=hzs.two
      simp (config:={ maxSteps:=1000000 }) (disch:=first | assumption | decide | omega) only [go_sem,z3,t2,t3,t5,t8,t12,t13,t14,t35,t36,t37,ld_blk s84,sto_blk s84,hzs,hzp]
      exact ⟨(ix g.d d).l.length - (n+1),by omega,n+1,rfl,by omega,rfl,by rw [hs1]; rfl,by repeat (first | assumption | exact Fr.refl (by assumption) | exact Fr.up (by assumption) (by first | omega | (dsimp only; omega)) | exact Fr.up (Fr.refl (by assumption)) (by first | omega | (dsimp only; omega)) | refine Fr.set1 ?_ (by first | omega | (dsimp only; omega)) (by first | omega | (dsimp only; omega)) | refine Fr.del1 ?_ (by first | omega | (dsimp only; omega)) | refine Fr.newU ?_ (by first | omega | (dsimp only; omega))),by omega⟩
     ·have:n=(ix g.d d).l.length:=by omega
      subst this
      rw [← hsum] at s8
      simp (config:={ maxSteps:=1000000 }) (disch:=first | assumption | decide | omega) only [go_sem,z3,true_and]
      exact ⟨t2,t3,t5,t8,t12,t13,t14,s8,hf3,hn3⟩
    ·rintro _ tm σ3 ⟨rfl,t2,t3,t5,t8,t12,t13,t14,s8,hf3,hn3⟩
     have hle3:=hf3.le
     have hF13:=hf.trans hf3
     have hb1:b<σ3.nxt:=by have:=hF1.le; omega
     unfold ratC at s8
     rcases hO with ⟨rfl,rfl⟩ | ⟨hj0,bo,rfl,e1,e2,e3⟩
     ·simp (config:={ maxSteps:=1000000 }) (disch:=first | assumption | decide | omega) only [go_sem,z3,t2,t3,t5,t8,t12,t13,t14,ld_blk s8]
      refine ⟨(rightsL g).length - 1,by omega,1,_,rfl,by omega,rfl,rfl,?_,?_⟩
      ·exact OwnL.snoc (n:=0) (G:=fun k=>ratC (totR g L k)) (fun _ _=>rfl) (by omega) rfl (fun _ _=>rfl) rfl _ (by omega)
      ·repeat (first | assumption | exact Fr.refl (by assumption) | exact Fr.up (by assumption) (by first | omega | (dsimp only; omega)) | exact Fr.up (Fr.refl (by assumption)) (by first | omega | (dsimp only; omega)) | refine Fr.set1 ?_ (by first | omega | (dsimp only; omega)) (by first | omega | (dsimp only; omega)) | refine Fr.del1 ?_ (by first | omega | (dsimp only; omega)) | refine Fr.newU ?_ (by first | omega | (dsimp only; omega)))
     ·have e1' : σ3.h bo=some ⟨rats j (fun k=>totR g L k),some (3,71)⟩:=hf3.get hf.wf e1
      have hl3:=len_rats j fun k=>totR g L k
      simp (config:={ maxSteps:=1000000 }) (disch:=first | assumption | decide | omega) only [go_sem,z3,t2,t3,t5,t8,t12,t13,t14,ld_blk s8,e1']
      refine ⟨(rightsL g).length - (j+1),by omega,j+1,_,rfl,by omega,rfl,rfl,?_,?_⟩
      ·refine OwnL.snoc (n:=j) (G:=fun k=>ratC (totR g L k)) (fun _ _=>rfl) (by omega) ?_ (fun _ _=>rfl) rfl _ (by omega)
       rw [← rats_snoc]; rfl
      ·repeat (first | assumption | exact Fr.refl (by assumption) | exact Fr.up (by assumption) (by first | omega | (dsimp only; omega)) | exact Fr.up (Fr.refl (by assumption)) (by first | omega | (dsimp only; omega)) | refine Fr.set1 ?_ (by first | omega | (dsimp only; omega)) (by first | omega | (dsimp only; omega)) | refine Fr.del1 ?_ (by first | omega | (dsimp only; omega)) | refine Fr.newU ?_ (by first | omega | (dsimp only; omega)))
  ·have:j=(rightsL g).length:=by omega
   subst this
   simp (config:={ maxSteps:=1000000 }) (disch:=first | assumption | decide | omega) only [go_sem,z3,t5]
   exact ⟨ov,rfl,hO.mono (fun _ _ _=>rfl) hle1 (Nat.le_refl _),hF1.trans hf⟩
end
end Go.Proofs.Xe
