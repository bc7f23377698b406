/- SameRats at two lists that read alike, in the executor's words. -/
import Derived.Test.YtiaefgffeekfkaaGreatDoorZ38
set_option linter.unusedSimpArgs false
set_option linter.unusedVariables false
set_option maxHeartbeats 8000000
namespace Go.Proofs.Xe
open Go.RowKit Go.Proofs.Ins
def SzG (g:Grp):Prop:=∀ i,i<g.e.length→∀ k,k<(ix g.e i).c.length→(ix (ix g.e i).c k).a.s.size+(ix (ix g.e i).c k).a.d.size≤130000000∧Sz (ix (ix g.e i).c k).a.q
section
variable {m gv n2 n3 n4 n5 n6 n7:B}
end
set_option maxRecDepth 10000 in
theorem rpaid_x {σ:St} (hW:WF σ) {p:Nat→Prop} (L:List (List Rat)) {gv:B} (hT:HTab p σ.h gv L) (hL:SzT L) (i k:Nat) :
  CallX EN 39 [.c gv,.c (.int .i64 (.ofNat i)),.c (.int .i64 (.ofNat k))] σ fun r σ'=>r=rV (paidQ L i k)∧Fr σ σ':=by
 refine call_fn (O_r21_paid _ _) F_r21_paid ?_
 unfold a_r21_paid
 obtain ⟨R,hR,hR2⟩:=hT
 have hlen:=hR.len
 have hkn:=hR.kn
 have hge : ∀ a b:Nat,decide (Int.ofNat a≤Int.ofNat b)=decide (a≤b):=fun a b=>by simp
 simp (config:={ maxSteps:=1000000 }) (disch:=first | assumption | decide | omega) only [go_sem,z3,hlen,hkn,hge]
 refine gsV_dec' (fun hi=>?_) (fun hi=>?_)
 ·simp (config:={ maxSteps:=1000000 }) (disch:=first | assumption | decide | omega) only [go_sem,z3,hi]
  refine ⟨?_,by repeat (first | assumption | exact Fr.refl (by assumption) | exact Fr.up (by assumption) (by first | omega | (dsimp only; omega)) | exact Fr.up (Fr.refl (by assumption)) (by first | omega | (dsimp only; omega)) | refine Fr.set1 ?_ (by first | omega | (dsimp only; omega)) (by first | omega | (dsimp only; omega)) | refine Fr.del1 ?_ (by first | omega | (dsimp only; omega)) | refine Fr.newU ?_ (by first | omega | (dsimp only; omega)))⟩
  unfold paidQ rV
  rw [if_neg (by omega)]
 ·obtain ⟨b,o,c,rfl,-,hld⟩:=hR.pos (by omega)
  obtain ⟨l1,l2⟩:=ld_one (hld i (by omega))
  have hb:=hW.ld_lt l1
  have hRi:=hR2 i (by omega)
  have hlen2:=hRi.len
  simp (config:={ maxSteps:=1000000 }) (disch:=first | assumption | decide | omega) only [go_sem,z3,hlen,hkn,hi,l1,hlen2,hge]
  refine ifV_dec (fun hk=>?_) (fun hk=>?_)
  ·simp (config:={ maxSteps:=1000000 }) (disch:=first | assumption | decide | omega) only [go_sem,z3,hk]
   refine ⟨?_,by repeat (first | assumption | exact Fr.refl (by assumption) | exact Fr.up (by assumption) (by first | omega | (dsimp only; omega)) | exact Fr.up (Fr.refl (by assumption)) (by first | omega | (dsimp only; omega)) | refine Fr.set1 ?_ (by first | omega | (dsimp only; omega)) (by first | omega | (dsimp only; omega)) | refine Fr.del1 ?_ (by first | omega | (dsimp only; omega)) | refine Fr.newU ?_ (by first | omega | (dsimp only; omega)))⟩
   unfold paidQ rV
   rw [if_pos (by omega),if_neg (by omega)]
  ·obtain ⟨b2,o2,c2,e2,-,hld2⟩:=hRi.pos (by omega)
   have hld2:=hld2 k (by omega)
   have hb2:=hW.ld_lt hld2
   have hz:Sz (ix (ix L i) k):=hL i (by omega) k (by omega)
   unfold ratC at hld2
   rw [e2] at l1
   simp (config:={ maxSteps:=1000000 }) (disch:=first | assumption | decide | omega) only [go_sem,z3,hkn,l1,hld2]
   refine ⟨?_,by repeat (first | assumption | exact Fr.refl (by assumption) | exact Fr.up (by assumption) (by first | omega | (dsimp only; omega)) | exact Fr.up (Fr.refl (by assumption)) (by first | omega | (dsimp only; omega)) | refine Fr.set1 ?_ (by first | omega | (dsimp only; omega)) (by first | omega | (dsimp only; omega)) | refine Fr.del1 ?_ (by first | omega | (dsimp only; omega)) | refine Fr.newU ?_ (by first | omega | (dsimp only; omega)))⟩
   unfold paidQ rV
   rw [if_pos (by omega),if_pos (by omega)]
section
variable {m gv n2 n3 n4 n5 n6 n7:B}
end
section
variable {m n1 n2 n3 nv n5 n6 n7:B}
set_option maxRecDepth 10000 in
theorem rtotals_x {σ:St} (hW:WF σ) {p p' : Nat→Prop} {ev dv:B} (g:Grp) (hg:HGrp p' σ.h ev dv g) (hs:SmallG 134217728 g) (h0:chkG g=0) (L:List (List Rat)) (hT:HTab p σ.h nv L) (hL:SzT L) (hM:SmT L) (hm:m.kn=true) (k1:n1.kn=true) (k2:n2.kn=true) (k3:n3.kn=true) (k5:n5.kn=true) (k6:n6.kn=true) (k7:n7.kn=true) :
  CallX EN 55 [.agg [ev,dv],.agg [m,n1,n2,n3,nv,n5,n6,n7]] σ fun r σ'=>∃ ov,r = .c ov∧OwnL σ'.h ov (rightsL g).length (fun k=>ratC (totR g L k)) 3 71 σ.nxt σ'.nxt∧Fr σ σ':=by
 refine call_fn (O_r21_totals _ _) F_r21_totals ?_
 unfold a_r21_totals
 have hV:=chkG_valid h0
 have hek:=hg.e.kn
 have hdk:=hg.d.kn
 have hnk:=hT.choose_spec.1.kn
 simp (config:={ maxSteps:=1000000 }) (disch:=first | assumption | decide | omega) only [go_sem,z3,hek,hdk,hnk,hm,k1,k2,k3,k5,k6,k7]
 refine CallX.st (Fr σ) (by repeat (first | assumption | exact Fr.refl (by assumption) | exact Fr.up (by assumption) (by first | omega | (dsimp only; omega)) | exact Fr.up (Fr.refl (by assumption)) (by first | omega | (dsimp only; omega)) | refine Fr.set1 ?_ (by first | omega | (dsimp only; omega)) (by first | omega | (dsimp only; omega)) | refine Fr.del1 ?_ (by first | omega | (dsimp only; omega)) | refine Fr.newU ?_ (by first | omega | (dsimp only; omega)))) fun hF=>?_
 refine (rrights_x hF.wf g (hg.fr hW hF) hs h0).mono ?_
 rintro _ σ1 ⟨rv,rfl,hR,hf1⟩
 have hF1:=hF.trans hf1
 have hle1:=hF1.le
 have q0:σ1.h σ.nxt=some ⟨[ev,dv],none⟩:=hf1.get hF.wf ((hset_ne _ _ _ _ (by omega)).trans (hset_get _ _ _))
 have q1:σ1.h (σ.nxt+1)=some ⟨[m,n1,n2,n3,nv,n5,n6,n7],none⟩:=hf1.get hF.wf (hset_get _ _ _)
 have hnx:σ.nxt+1+1≤σ1.nxt:=hf1.le
 have hlenR:=OwnL.len hR
 have hRl:=rtD_len hV g.d.length
 have hnd:=hV.nd
 have hRl:(rightsL g).length≤300:=by
  have h9:(rightsL g).length≤192+g.d.length:=hRl
  omega
 simp (config:={ maxSteps:=1000000 }) (disch:=first | assumption | decide | omega) only [go_sem,z3,hlenR]
 refine run_loop (fun q tm σ'=>∃ j ov,q=(rightsL g).length - j∧j≤(rightsL g).length∧Tr.getV tm 2 = .c (.ptr σ.nxt 0)∧Tr.getV tm 3 = .c (.ptr (σ.nxt+1) 0)∧Tr.getV tm 5 = .c ov∧Tr.getV tm 6 = .c rv∧Tr.getV tm 7 = .c (.int .i64 (.ofNat j))
  ∧ OwnL σ'.h ov j (fun k=>ratC (totR g L k)) 3 71 σ1.nxt σ'.nxt∧Fr σ1 σ') (rightsL g).length ?_ ?_
 ·refine ⟨0,.nils,by omega,by omega,?_⟩
  simp (config:={ maxSteps:=1000000 }) (disch:=first | assumption | decide | omega) only [go_sem,z3,true_and]
  exact ⟨.nil,Fr.refl hF1.wf⟩
 ·rintro q tm σ' ⟨j,ov,rfl,hj,t2,t3,t5,t6,t7,hO,hf⟩
  have hle:=hf.le
  simp (config:={ maxSteps:=1000000 }) (disch:=first | assumption | decide | omega) only [go_sem,z3,t2,t3,t5,t6,t7,hlenR,lt_ofNat]
  refine ifV_dec (fun hlt=>?_) (fun hlt=>?_)
  ·obtain ⟨b,o,c,rfl,hb,hld⟩:=hR.at hlt
   have hld:=hf.ld hF1.wf hld
   have q0':=hf.get hF1.wf q0
   have q1':=hf.get hF1.wf q1
   have htot:totR g L j=totV g L (ix (rightsL g) j):=rfl
   have hok:=hO.kn
   rcases rightsL_good g hlt with ⟨i,k,hx⟩ | ⟨d,hd,hx⟩
   ·rw [hx] at hld htot
    have hneg:decide (Int.negSucc 0<Int.ofNat 0)=true:=rfl
    have htot:totR g L j=paidQ L i k:=htot
    unfold rtB at hld
    have l0:=ld_sub hld 0 1 false (by decide) (by decide)
    have l1:=ld_sub hld 1 1 false (by decide) (by decide)
    have l2:=ld_sub hld 2 1 false (by decide) (by decide)
    have l0:ld σ'.h b (o+j*3) 1 false=some (.c (.int .i64 (.negSucc 0))):=l0
    have l1:ld σ'.h b (o+j*3+1) 1 false=some (.c (.int .i64 (.ofNat i))):=l1
    have l2:ld σ'.h b (o+j*3+2) 1 false=some (.c (.int .i64 (.ofNat k))):=l2
    simp (config:={ maxSteps:=1000000 }) (disch:=first | assumption | decide | omega) only [go_sem,z3,t2,t3,t5,t6,t7,l0,l1,l2,hneg,ld_blk q1',hnk,hm,k1,k2,k3,k5,k6,k7,hok]
    refine (rpaid_x hf.wf L (hT.fr hW (hF1.trans hf)) hL i k).mono ?_
    rintro _ σ2 ⟨rfl,hf2⟩
    have hF13:=hf.trans hf2
    have hle3:=hf2.le
    have q13:=hf2.get hf.wf q1'
    have l03:=hf2.ld hf.wf l0
    have l13:=hf2.ld hf.wf l1
    have l23:=hf2.ld hf.wf l2
    unfold rV
    rw [← htot]
    rcases hO with ⟨rfl,rfl⟩ | ⟨hj0,bo,rfl,e1,e2,e3⟩
    ·simp (config:={ maxSteps:=1000000 }) (disch:=first | assumption | decide | omega) only [go_sem,z3,t2,t3,t5,t6,t7,ld_blk q13,hnk,hm,k1,k2,k3,k5,k6,k7]
     refine ⟨(rightsL g).length - 1,by omega,1,_,rfl,by omega,rfl,rfl,?_,?_⟩
     ·exact OwnL.snoc (n:=0) (G:=fun k=>ratC (totR g L k)) (fun _ _=>rfl) (by omega) rfl (fun _ _=>rfl) rfl _ (by omega)
     ·repeat (first | assumption | exact Fr.refl (by assumption) | exact Fr.up (by assumption) (by first | omega | (dsimp only; omega)) | exact Fr.up (Fr.refl (by assumption)) (by first | omega | (dsimp only; omega)) | refine Fr.set1 ?_ (by first | omega | (dsimp only; omega)) (by first | omega | (dsimp only; omega)) | refine Fr.del1 ?_ (by first | omega | (dsimp only; omega)) | refine Fr.newU ?_ (by first | omega | (dsimp only; omega)))
    ·have e1' : σ2.h bo=some ⟨rats j (fun k=>totR g L k),some (3,71)⟩:=hf2.get hf.wf e1
     have hl3:=len_rats j fun k=>totR g L k
     simp (config:={ maxSteps:=1000000 }) (disch:=first | assumption | decide | omega) only [go_sem,z3,t2,t3,t5,t6,t7,ld_blk q13,hnk,hm,k1,k2,k3,k5,k6,k7,e1']
     refine ⟨(rightsL g).length - (j+1),by omega,j+1,_,rfl,by omega,rfl,rfl,?_,?_⟩
     ·refine OwnL.snoc (n:=j) (G:=fun k=>ratC (totR g L k)) (fun _ _=>rfl) (by omega) ?_ (fun _ _=>rfl) rfl _ (by omega)
      rw [← rats_snoc]; rfl
     ·repeat (first | assumption | exact Fr.refl (by assumption) | exact Fr.up (by assumption) (by first | omega | (dsimp only; omega)) | exact Fr.up (Fr.refl (by assumption)) (by first | omega | (dsimp only; omega)) | refine Fr.set1 ?_ (by first | omega | (dsimp only; omega)) (by first | omega | (dsimp only; omega)) | refine Fr.del1 ?_ (by first | omega | (dsimp only; omega)) | refine Fr.newU ?_ (by first | omega | (dsimp only; omega)))
   ·rw [hx] at hld htot
    have hneg:decide (Int.ofNat d<Int.ofNat 0)=false:=decide_eq_false (by simp only [Int.ofNat_eq_natCast]; omega)
    unfold rtB at hld
    have l0:ld σ'.h b (o+j*3) 1 false=some (.c (.int .i64 (.ofNat d))):=ld_sub hld 0 1 false (by decide) (by decide)
    have hbl:=hf.wf.ld_lt l0
    have hq0:=hf.wf.lt q0'
    have hq1:=hf.wf.lt q1'
    obtain ⟨bd,od,cd,rfl,T,-,hT0,hLg⟩:=hg.d.at hd
    have hT1:=(hF1.trans hf).ld hW hT0
    have hTk:=hLg.kn
    have hbd:=hf.wf.ld_lt hT1
    have hlenL:=hLg.len
    have hnl:=hV.nl d hd
    have hsum:totR g L j=sumLg L (ix g.d d).l (ix g.d d).l.length:=htot
    simp (config:={ maxSteps:=1000000 }) (disch:=first | assumption | decide | omega) only [go_sem,z3,t2,t3,t5,t6,t7,l0,hneg,ld_blk q0',hek,hdk,hT1,hTk,hlenL,hok]
    refine RunX.mono (Q:=fun e tm σ3=>e = .exit 2∧Tr.getV tm 2 = .c (.ptr σ.nxt 0)∧Tr.getV tm 3 = .c (.ptr (σ.nxt+1) 0)∧Tr.getV tm 5 = .c ov∧Tr.getV tm 6 = .c (.sl b o (rightsL g).length c)∧Tr.getV tm 7 = .c (.int .i64 (.ofNat j))∧Tr.getV tm 8 = .c (.ptr σ'.nxt 0)
     ∧ σ3.h σ'.nxt=some ⟨ratC (totR g L j),none⟩∧Fr σ' σ3∧σ'.nxt+1≤σ3.nxt)
     (run_loop (fun q tm σ3=>∃ n,q=(ix g.d d).l.length - n∧n≤(ix g.d d).l.length∧Tr.getV tm 2 = .c (.ptr σ.nxt 0)∧Tr.getV tm 3 = .c (.ptr (σ.nxt+1) 0)∧Tr.getV tm 5 = .c ov∧Tr.getV tm 6 = .c (.sl b o (rightsL g).length c)∧Tr.getV tm 7 = .c (.int .i64 (.ofNat j))∧Tr.getV tm 8 = .c (.ptr σ'.nxt 0)∧Tr.getV tm 9 = .c T∧Tr.getV tm 10 = .c (.int .i64 (.ofNat n))
      ∧ σ3.h σ'.nxt=some ⟨ratC (sumLg L (ix g.d d).l n),none⟩∧Fr σ' σ3∧σ'.nxt+1≤σ3.nxt) (ix g.d d).l.length ?_ ?_) ?_
    ·refine ⟨0,by omega,by omega,?_⟩
     simp (config:={ maxSteps:=1000000 }) (disch:=first | assumption | decide | omega) only [go_sem,z3,t2,t3,t5,t6,t7,true_and]
     refine ⟨rfl,?_,by omega⟩
     have hFr:=Fr.refl hf.wf
     repeat (first | assumption | exact Fr.refl (by assumption) | exact Fr.up (by assumption) (by first | omega | (dsimp only; omega)) | exact Fr.up (Fr.refl (by assumption)) (by first | omega | (dsimp only; omega)) | refine Fr.set1 ?_ (by first | omega | (dsimp only; omega)) (by first | omega | (dsimp only; omega)) | refine Fr.del1 ?_ (by first | omega | (dsimp only; omega)) | refine Fr.newU ?_ (by first | omega | (dsimp only; omega)))
    ·rintro q tm3 σ3 ⟨n,rfl,hn,t2,t3,t5,t6,t7,t8,t9,t10,s8,hf3,hn3⟩
     have hle3:=hf3.le
     simp (config:={ maxSteps:=1000000 }) (disch:=first | assumption | decide | omega) only [go_sem,z3,t2,t3,t5,t6,t7,t8,t9,t10,hlenL,lt_ofNat]
     refine ifV_dec (fun hln=>?_) (fun hln=>?_)
     ·obtain ⟨b2,o2,c2,rfl,-,hl2,hl3⟩:=hLg.at hln
      obtain ⟨e,k,hx2,he,hk⟩:=hV.l d hd n hln
      rw [hx2] at hl2 hl3
      have hw3:=hF1.trans (hf.trans hf3)
      have hl2:=hw3.ld hW hl2
      have hl3:=hw3.ld hW hl3
      have hs1:sumLg L (ix g.d d).l (n+1)=sumLg L (ix g.d d).l n+paidQ L e k:=by
       show sumLg L (ix g.d d).l n+paidQ L (ix (ix g.d d).l n).e.toNat (ix (ix g.d d).l n).k.toNat=_
       rw [hx2]; rfl
      have q13:=hf3.get hf.wf q1'
      have hzs:Sz (sumLg L (ix g.d d).l n):=(hM.sum _ _).mono (by unfold szK; omega)
      have hzp:Sz (paidQ L e k):=hL.paid e k
      unfold ratC at s8
      simp (config:={ maxSteps:=1000000 }) (disch:=first | assumption | decide | omega) only [go_sem,z3,t2,t3,t5,t6,t7,t8,t9,t10,hl2,hl3,ld_blk s8,ld_blk q13,hnk,hm,k1,k2,k3,k5,k6,k7]
      refine (rpaid_x hf3.wf L (hT.fr hW hw3) hL e k).mono ?_
      rintro _ σ4 ⟨rfl,hf4⟩
      have hle5:=hf4.le
      have hF35:=hf3.trans hf4
      have s84:=hf4.get hf3.wf s8
      have q14:=hf4.get hf3.wf q13
      have hl24:=hf4.ld hf3.wf hl2
      have hl34:=hf4.ld hf3.wf hl3
      unfold rV
      have hzp2:=hzp.two
      have hzs2:=hzs.two
      simp (config:={ maxSteps:=1000000 }) (disch:=first | assumption | decide | omega) only [go_sem,z3,t2,t3,t5,t6,t7,t8,t9,t10,hl24,hl34,ld_blk s84,sto_blk s84,ld_blk q14,hnk,hm,k1,k2,k3,k5,k6,k7,hzs,hzp]
      exact ⟨(ix g.d d).l.length - (n+1),by omega,n+1,rfl,by omega,rfl,by rw [hs1]; rfl,by repeat (first | assumption | exact Fr.refl (by assumption) | exact Fr.up (by assumption) (by first | omega | (dsimp only; omega)) | exact Fr.up (Fr.refl (by assumption)) (by first | omega | (dsimp only; omega)) | refine Fr.set1 ?_ (by first | omega | (dsimp only; omega)) (by first | omega | (dsimp only; omega)) | refine Fr.del1 ?_ (by first | omega | (dsimp only; omega)) | refine Fr.newU ?_ (by first | omega | (dsimp only; omega))),by omega⟩
     ·have:n=(ix g.d d).l.length:=by omega
      subst this
      rw [← hsum] at s8
      simp (config:={ maxSteps:=1000000 }) (disch:=first | assumption | decide | omega) only [go_sem,z3,true_and]
      exact ⟨t2,t3,t5,t6,t7,t8,s8,hf3,hn3⟩
    ·rintro _ tm σ3 ⟨rfl,t2,t3,t5,t6,t7,t8,s8,hf3,hn3⟩
     have hle3:=hf3.le
     have hF13:=hf.trans hf3
     unfold ratC at s8
     rcases hO with ⟨rfl,rfl⟩ | ⟨hj0,bo,rfl,e1,e2,e3⟩
     ·simp (config:={ maxSteps:=1000000 }) (disch:=first | assumption | decide | omega) only [go_sem,z3,t2,t3,t5,t6,t7,t8,ld_blk s8]
      refine ⟨(rightsL g).length - 1,by omega,1,_,rfl,by omega,rfl,rfl,?_,?_⟩
      ·exact OwnL.snoc (n:=0) (G:=fun k=>ratC (totR g L k)) (fun _ _=>rfl) (by omega) rfl (fun _ _=>rfl) rfl _ (by omega)
      ·repeat (first | assumption | exact Fr.refl (by assumption) | exact Fr.up (by assumption) (by first | omega | (dsimp only; omega)) | exact Fr.up (Fr.refl (by assumption)) (by first | omega | (dsimp only; omega)) | refine Fr.set1 ?_ (by first | omega | (dsimp only; omega)) (by first | omega | (dsimp only; omega)) | refine Fr.del1 ?_ (by first | omega | (dsimp only; omega)) | refine Fr.newU ?_ (by first | omega | (dsimp only; omega)))
     ·have e1' : σ3.h bo=some ⟨rats j (fun k=>totR g L k),some (3,71)⟩:=hf3.get hf.wf e1
      have hl3:=len_rats j fun k=>totR g L k
      simp (config:={ maxSteps:=1000000 }) (disch:=first | assumption | decide | omega) only [go_sem,z3,t2,t3,t5,t6,t7,t8,ld_blk s8,e1']
      refine ⟨(rightsL g).length - (j+1),by omega,j+1,_,rfl,by omega,rfl,rfl,?_,?_⟩
      ·refine OwnL.snoc (n:=j) (G:=fun k=>ratC (totR g L k)) (fun _ _=>rfl) (by omega) ?_ (fun _ _=>rfl) rfl _ (by omega)
       rw [← rats_snoc]; rfl
      ·repeat (first | assumption | exact Fr.refl (by assumption) | exact Fr.up (by assumption) (by first | omega | (dsimp only; omega)) | exact Fr.up (Fr.refl (by assumption)) (by first | omega | (dsimp only; omega)) | refine Fr.set1 ?_ (by first | omega | (dsimp only; omega)) (by first | omega | (dsimp only; omega)) | refine Fr.del1 ?_ (by first | omega | (dsimp only; omega)) | refine Fr.newU ?_ (by first | omega | (dsimp only; omega)))
  ·have:j=(rightsL g).length:=by omega
   subst this
   simp (config:={ maxSteps:=1000000 }) (disch:=first | assumption | decide | omega) only [go_sem,z3,t5]
   exact ⟨ov,rfl,hO.mono (fun _ _ _=>rfl) hle1 (Nat.le_refl _),hF1.trans hf⟩
end
def TotV (σ' : St) (g:Grp) (L:List (List Rat)) (lo:Nat) (r:V):Prop:=(chkG g≠0∧r = .tcons (.c .nils) (.tcons (.c (.int .i64 (chkG g))) .tnil))∨(chkG g=0∧∃ ov,r = .tcons (.c ov) (.tcons (.c (.int .i64 (.ofNat 0))) .tnil)∧OwnL σ'.h ov (rightsL g).length (fun k=>ratC (totR g L k)) 3 71 lo σ'.nxt)
section
variable {m n1 n2 n3 nv n5 n6 n7:B}
set_option maxRecDepth 10000 in
theorem dtotals_x {σ:St} (hW:WF σ) {p p' : Nat→Prop} {ev dv:B} (g:Grp) (hg:HGrp p' σ.h ev dv g) (hs:SmallG 134217728 g) (L:List (List Rat)) (hT:HTab p σ.h nv L) (hL:SzT L) (hM:SmT L) (hm:m.kn=true) (k1:n1.kn=true) (k2:n2.kn=true) (k3:n3.kn=true) (k5:n5.kn=true) (k6:n6.kn=true) (k7:n7.kn=true) :
  CallX EN 25 [.agg [ev,dv],.agg [m,n1,n2,n3,nv,n5,n6,n7]] σ fun r σ'=>TotV σ' g L σ.nxt r∧Fr σ σ':=by
 refine call_fn (O_dividend_Totals _ _) F_dividend_Totals ?_
 unfold a_dividend_Totals
 have hek:=hg.e.kn
 have hdk:=hg.d.kn
 have hnk:=hT.choose_spec.1.kn
 simp (config:={ maxSteps:=1000000 }) (disch:=first | assumption | decide | omega) only [go_sem,z3,hek,hdk,hnk,hm,k1,k2,k3,k5,k6,k7]
 refine CallX.st (Fr σ) (by repeat (first | assumption | exact Fr.refl (by assumption) | exact Fr.up (by assumption) (by first | omega | (dsimp only; omega)) | exact Fr.up (Fr.refl (by assumption)) (by first | omega | (dsimp only; omega)) | refine Fr.set1 ?_ (by first | omega | (dsimp only; omega)) (by first | omega | (dsimp only; omega)) | refine Fr.del1 ?_ (by first | omega | (dsimp only; omega)) | refine Fr.newU ?_ (by first | omega | (dsimp only; omega)))) fun hF=>?_
 rw [x_Check (hg.fr hW hF) hs]
 by_cases h0:chkG g = .ofNat 0
 ·rw [h0]
  simp (config:={ maxSteps:=1000000 }) (disch:=first | assumption | decide | omega) only [go_sem,z3,hek,hdk,hnk,hm,k1,k2,k3,k5,k6,k7]
  refine (totals_x hF.wf g (hg.fr hW hF) h0 L (hT.fr hW hF) hL hM hm k1 k2 k3 k5 k6 k7).mono ?_
  rintro _ σ2 ⟨ov,rfl,hR,hf2⟩
  have hF2:=hF.trans hf2
  simp (config:={ maxSteps:=1000000 }) (disch:=first | assumption | decide | omega) only [go_sem,z3,hek]
  exact ⟨.inr ⟨h0,ov,rfl,OwnL.mono hR (fun _ _ _=>rfl) (by show σ.nxt≤σ.nxt+1+1; omega) (Nat.le_refl _)⟩,hF2⟩
 ·have h1:decide (chkG g = .ofNat 0)=false:=decide_eq_false h0
  simp (config:={ maxSteps:=1000000 }) (disch:=first | assumption | decide | omega) only [go_sem,z3,hek,hdk,h1]
  exact ⟨.inl ⟨h0,rfl⟩,hF⟩
set_option maxRecDepth 10000 in
theorem rTotals_x {σ:St} (hW:WF σ) {p p' : Nat→Prop} {ev dv:B} (g:Grp) (hg:HGrp p' σ.h ev dv g) (hs:SmallG 134217728 g) (L:List (List Rat)) (hT:HTab p σ.h nv L) (hL:SzT L) (hM:SmT L) (hm:m.kn=true) (k1:n1.kn=true) (k2:n2.kn=true) (k3:n3.kn=true) (k5:n5.kn=true) (k6:n6.kn=true) (k7:n7.kn=true) :
  CallX EN 26 [.agg [ev,dv],.agg [m,n1,n2,n3,nv,n5,n6,n7]] σ fun r σ'=>TotV σ' g L σ.nxt r∧Fr σ σ':=by
 refine call_fn (O_r21_Totals _ _) F_r21_Totals ?_
 unfold a_r21_Totals
 have hek:=hg.e.kn
 have hdk:=hg.d.kn
 have hnk:=hT.choose_spec.1.kn
 simp (config:={ maxSteps:=1000000 }) (disch:=first | assumption | decide | omega) only [go_sem,z3,hek,hdk,hnk,hm,k1,k2,k3,k5,k6,k7]
 refine CallX.st (Fr σ) (by repeat (first | assumption | exact Fr.refl (by assumption) | exact Fr.up (by assumption) (by first | omega | (dsimp only; omega)) | exact Fr.up (Fr.refl (by assumption)) (by first | omega | (dsimp only; omega)) | refine Fr.set1 ?_ (by first | omega | (dsimp only; omega)) (by first | omega | (dsimp only; omega)) | refine Fr.del1 ?_ (by first | omega | (dsimp only; omega)) | refine Fr.newU ?_ (by first | omega | (dsimp only; omega)))) fun hF=>?_
 rw [x_rCheck (hg.fr hW hF) hs]
 by_cases h0:chkG g = .ofNat 0
 ·rw [h0]
  simp (config:={ maxSteps:=1000000 }) (disch:=first | assumption | decide | omega) only [go_sem,z3,hek,hdk,hnk,hm,k1,k2,k3,k5,k6,k7]
  refine (rtotals_x hF.wf g (hg.fr hW hF) hs h0 L (hT.fr hW hF) hL hM hm k1 k2 k3 k5 k6 k7).mono ?_
  rintro _ σ2 ⟨ov,rfl,hR,hf2⟩
  have hF2:=hF.trans hf2
  simp (config:={ maxSteps:=1000000 }) (disch:=first | assumption | decide | omega) only [go_sem,z3,hek]
  exact ⟨.inr ⟨h0,ov,rfl,OwnL.mono hR (fun _ _ _=>rfl) (by show σ.nxt≤σ.nxt+1+1; omega) (Nat.le_refl _)⟩,hF2⟩
 ·have h1:decide (chkG g = .ofNat 0)=false:=decide_eq_false h0
  simp (config:={ maxSteps:=1000000 }) (disch:=first | assumption | decide | omega) only [go_sem,z3,hek,hdk,h1]
  exact ⟨.inl ⟨h0,rfl⟩,hF⟩
end
set_option maxRecDepth 10000 in
theorem samerats_x {σ:St} (hW:WF σ) {p p' : Nat→Prop} {n:Nat} {v1 v2:B} (F:Nat→Rat) (h1:HLp p σ.h 3 v1 n fun k=>ratC (F k)) (h2:HLp p' σ.h 3 v2 n fun k=>ratC (F k)) (hn:n≤1000000) :
  CallX EN 27 [.c v1,.c v2] σ fun r σ'=>r = .c (.bool true)∧Fr σ σ':=by
 refine call_fn (O_r1_SameRats _ _) F_r1_SameRats ?_
 unfold a_r1_SameRats
 have hdd:decide (Int.ofNat n=Int.ofNat n)=true:=decide_eq_true rfl
 have l1:=h1.len
 have l2:=h2.len
 simp (config:={ maxSteps:=1000000 }) (disch:=first | assumption | decide | omega) only [go_sem,z3,hdd,l1,l2]
 refine run_loop (fun q tm σ'=>∃ i,q=n - i∧i≤n∧Tr.getV tm 0 = .c v1∧Tr.getV tm 1 = .c v2∧Tr.getV tm 5 = .c (.int .i64 (.ofNat i))∧Fr σ σ') n ?_ ?_
 ·refine ⟨0,by omega,by omega,?_⟩
  simp (config:={ maxSteps:=1000000 }) (disch:=first | assumption | decide | omega) only [go_sem,z3,true_and]
  exact Fr.refl hW
 ·rintro q tm σ' ⟨i,rfl,hi,t0,t1,t5,hf⟩
  simp (config:={ maxSteps:=1000000 }) (disch:=first | assumption | decide | omega) only [go_sem,z3,t0,t1,t5,l1,lt_ofNat]
  refine ifV_dec (fun hlt=>?_) (fun hlt=>?_)
  ·obtain ⟨b1,o1,c1,e1,-,hl1⟩:=h1.pos (by omega)
   obtain ⟨b2,o2,c2,e2,-,hl2⟩:=h2.pos (by omega)
   have hl1:=hf.ld hW (hl1 i hlt)
   have hl2:=hf.ld hW (hl2 i hlt)
   unfold ratC at hl1 hl2
   rw [e1] at t0
   rw [e2] at t1
   have hpp:decide (F i=F i)=true:=decide_eq_true rfl
   have hbb:(false == true)=false:=rfl
   simp (config:={ maxSteps:=1000000 }) (disch:=first | assumption | decide | omega) only [go_sem,z3,t0,t1,t5,hl1,hl2,hpp,hbb]
   exact ⟨n - (i+1),(by omega),i+1,rfl,(by omega),(by rw [e1]),(by rw [e2]),rfl,hf⟩
  ·simp (config:={ maxSteps:=1000000 }) (disch:=first | assumption | decide | omega) only [go_sem,z3,t0]
   exact hf
end Go.Proofs.Xe
