/- Rights of a group, the reference's side, in the executor's words. -/
import Derived.Test.YtiaefgffeekfkaaGreatDoorZ34
set_option linter.unusedSimpArgs false
set_option linter.unusedVariables false
set_option maxHeartbeats 8000000
namespace Go.Proofs.Xe
open Go.RowKit Go.Proofs.Ins
abbrev Rt:=Int×Int×Int
def rtB (x:Rt):List B:=[.int .i64 x.1,.int .i64 x.2.1,.int .i64 x.2.2]
def isLg (g:Grp) (i k:Nat):Bool:=hasLg (legsB g.d g.d.length 0) ⟨.ofNat i,.ofNat k⟩
def rtA (g:Grp) (i:Nat) (acc:List Rt):Nat→List Rt
 | 0=>acc
 | k+1=>if (ix (ix g.e i).c k).h = .negSucc 0∧isLg g i k=false then rtA g i acc k ++ [(.negSucc 0,.ofNat i,.ofNat k)] else rtA g i acc k
def rtE (g:Grp):Nat→List Rt
 | 0=>[]
 | i+1=>rtA g i (rtE g i) (ix g.e i).c.length
def rtD (g:Grp):Nat→List Rt
 | 0=>rtE g g.e.length
 | d+1=>if 0<(ix g.d d).l.length∧holdL g.e (ix (ix g.d d).l 0) = .negSucc 0 then rtD g d ++ [(.ofNat d,.ofNat 0,.ofNat 0)] else rtD g d
def rightsL (g:Grp):List Rt:=rtD g g.d.length
structure VG (g:Grp):Prop where
 l : ∀ d,d<g.d.length→∀ k,k<(ix g.d d).l.length→∃ e j:Nat,ix (ix g.d d).l k=⟨.ofNat e,.ofNat j⟩∧e<g.e.length∧j<(ix g.e e).c.length
 ne:g.e.length≤8
 nd:g.d.length≤16
 nc : ∀ i,i<g.e.length→(ix g.e i).c.length≤24
 nl : ∀ d,d<g.d.length→(ix g.d d).l.length≤8
theorem chkG_valid {g:Grp} (h:chkG g=0):VG g:=by
 unfold chkG at h
 split at h
 ·cases h
 next h0 =>
 split at h
 ·next h1=>exact absurd h h1
 next h1 =>
 split at h
 ·next h2=>exact absurd h h2
 next h2 =>
 have h1:fnz (fun i=>chkE (ix g.e i)) g.e.length=0:=Classical.byContradiction h1
 refine ⟨fun d hd k hk=>?_,by omega,by omega,fun i hi=>?_,fun d hd=>?_⟩
 ·have hD:=fnz_zero h d hd
  unfold chkD at hD
  split at hD
  ·cases hD
  split at hD
  ·cases hD
  have hL:=fnz_zero hD k hk
  unfold chkL at hL
  dsimp only at hL
  split at hL
  ·cases hL
  next hr =>
  generalize ix (ix g.d d).l k=x at *
  obtain ⟨e,j⟩:=x
  refine ⟨e.toNat,j.toNat,?_,?_,?_⟩
  ·have h1:Int.ofNat e.toNat=e:=Int.toNat_of_nonneg (by dsimp only at hr; omega)
   have h2:Int.ofNat j.toNat=j:=Int.toNat_of_nonneg (by dsimp only at hr; omega)
   rw [h1,h2]
  ·dsimp only at hr; omega
  ·dsimp only at hr; omega
 ·have hE:=fnz_zero h1 i hi
  unfold chkE at hE
  split at hE
  ·cases hE
  ·omega
 ·have hD:=fnz_zero h d hd
  unfold chkD at hD
  split at hD
  ·cases hD
  ·omega
theorem hasLg_snoc (l:List Ins.Lg) (x y:Ins.Lg):hasLg (l ++ [x]) y=(hasLg l y || (x.e == y.e && x.k == y.k)):=by
 unfold hasLg; rw [List.any_append]; simp
theorem legsB_all (l:List Dbt):legsB l l.length 0=l.flatMap fun x=>x.l:=by
 unfold legsB; rw [List.take_length,List.take_zero,List.append_nil]
theorem hasLg_hit {l:List Dbt} {d k:Nat} (hd:d<l.length) (hk:k<(ix l d).l.length):hasLg (legsB l l.length 0) (ix (ix l d).l k)=true:=by
 rw [legsB_all]
 unfold hasLg
 rw [List.any_eq_true]
 exact ⟨_,List.mem_flatMap.mpr ⟨_,ix_mem hd,ix_mem hk⟩,by simp⟩
section
variable {p:Nat→Prop} {h:Tr Bk} {v:B}
theorem HDbts.at {dl:List Dbt} (hD:HDbts p h v dl) {i:Nat} (hi:i<dl.length) : ∃ b o c,v = .sl b o dl.length c∧∃ T:B,ld h b (o+i*4) 4 true=some (.agg [.bool (ix dl i).w.n,.str (ix dl i).w.s,.str (ix dl i).w.d,T])∧ld h b (o+i*4+3) 1 false=some (.c T)∧HLegs p h T (ix dl i).l:=by
 obtain ⟨L,h1,h2⟩:=hD
 obtain ⟨b,o,c,e,-,hld⟩:=h1.pos (by omega)
 have hl:=h2 i hi
 refine ⟨b,o,c,e,L i,hld i hi,?_,hl⟩
 rw [ld_sub (hld i hi) 3 1 false (by decide) (by decide)]
 have:=hl.kn
 unfold rdC
 simp [this]
theorem HLegs.at {l:List Ins.Lg} (hL:HLegs p h v l) {i:Nat} (hi:i<l.length) : ∃ b o c,v = .sl b o l.length c∧ld h b (o+i*2) 2 true=some (.agg [.int .i64 (ix l i).e,.int .i64 (ix l i).k])∧ld h b (o+i*2) 1 false=some (.c (.int .i64 (ix l i).e))∧ld h b (o+i*2+1) 1 false=some (.c (.int .i64 (ix l i).k)):=by
 obtain ⟨b,o,c,e,-,hld⟩:=HLp.pos hL (by omega)
 have hld:=hld i hi
 exact ⟨b,o,c,e,hld,ld_sub hld 0 1 false (by decide) (by decide),ld_sub hld 1 1 false (by decide) (by decide)⟩
end
theorem legsB_succ' {l:List Dbt} {d k:Nat} (hk:k<(ix l d).l.length):legsB l d (k+1)=legsB l d k ++ [ix (ix l d).l k]:=by
 unfold legsB
 rw [take_succ_ix hk,List.append_assoc]
theorem legsB_next' {l:List Dbt} {d:Nat} (hd:d<l.length):legsB l d (ix l d).l.length=legsB l (d+1) 0:=by
 unfold legsB
 rw [List.take_length,List.take_zero,List.append_nil,take_succ_ix hd,List.flatMap_append]
 simp
set_option maxRecDepth 10000 in
theorem leg_x {σ:St} (hW:WF σ) {p:Nat→Prop} {ev dv:B} (g:Grp) (hg:HGrp p σ.h ev dv g) (hV:VG g) (i k:Nat) (hi0:i≤1000) (hk0:k≤1000) :
  CallX EN 134 [.agg [ev,dv],.c (.int .i64 (.ofNat i)),.c (.int .i64 (.ofNat k))] σ fun r σ'=>(∃ a b:Int,r = .tcons (.c (.int .i64 a)) (.tcons (.c (.int .i64 b)) (.tcons (.c (.bool (isLg g i k))) .tnil)))∧Fr σ σ':=by
 refine call_fn (O_r17_leg _ _) F_r17_leg ?_
 unfold a_r17_leg
 have hek:=hg.e.kn
 have hdk:=hg.d.kn
 have hlenD:=hg.d.choose_spec.1.len
 have hnd:=hV.nd
 simp (config:={ maxSteps:=1000000 }) (disch:=first | assumption | decide | omega) only [go_sem,z3,hek,hdk]
 refine run_loop (fun q tm σ'=>∃ d,q=g.d.length - d∧d≤g.d.length∧Tr.getV tm 1 = .c (.int .i64 (.ofNat i))∧Tr.getV tm 2 = .c (.int .i64 (.ofNat k))∧Tr.getV tm 3 = .c (.ptr σ.nxt 0)∧Tr.getV tm 9 = .c (.int .i64 (.ofNat d))
  ∧ σ'.h σ.nxt=some ⟨[ev,dv],none⟩∧hasLg (legsB g.d d 0) ⟨.ofNat i,.ofNat k⟩=false∧Fr σ σ') g.d.length ?_ ?_
 ·refine ⟨0,by omega,by omega,?_⟩
  simp (config:={ maxSteps:=1000000 }) (disch:=first | assumption | decide | omega) only [go_sem,z3,true_and]
  refine ⟨?_,by repeat (first | assumption | exact Fr.refl (by assumption) | exact Fr.up (by assumption) (by first | omega | (dsimp only; omega)) | exact Fr.up (Fr.refl (by assumption)) (by first | omega | (dsimp only; omega)) | refine Fr.set1 ?_ (by first | omega | (dsimp only; omega)) (by first | omega | (dsimp only; omega)) | refine Fr.del1 ?_ (by first | omega | (dsimp only; omega)) | refine Fr.newU ?_ (by first | omega | (dsimp only; omega)))⟩
  unfold legsB hasLg; simp
 ·rintro q tm σ' ⟨d,rfl,hd,t1,t2,t3,t9,q0,hno,hf⟩
  have hle:=hf.le
  simp (config:={ maxSteps:=1000000 }) (disch:=first | assumption | decide | omega) only [go_sem,z3,t1,t2,t3,t9,ld_blk q0,hdk,hlenD,lt_ofNat]
  refine ifV_dec (fun hlt=>?_) (fun hlt=>?_)
  ·obtain ⟨b,o,c,rfl,T,-,hT0,hL⟩:=hg.d.at hlt
   have hT:=hf.ld hW hT0
   have hTk:=hL.kn
   have hlenL:=hL.len
   have hnl:=hV.nl d hlt
   simp (config:={ maxSteps:=1000000 }) (disch:=first | assumption | decide | omega) only [go_sem,z3,t1,t2,t3,t9]
   refine run_loop (fun q tm σ3=>∃ j,q=(ix g.d d).l.length - j∧j≤(ix g.d d).l.length∧Tr.getV tm 1 = .c (.int .i64 (.ofNat i))∧Tr.getV tm 2 = .c (.int .i64 (.ofNat k))∧Tr.getV tm 3 = .c (.ptr σ.nxt 0)∧Tr.getV tm 9 = .c (.int .i64 (.ofNat d))∧Tr.getV tm 10 = .c (.int .i64 (.ofNat j))
    ∧ σ3.h σ.nxt=some ⟨[ev,.sl b o g.d.length c],none⟩∧hasLg (legsB g.d d j) ⟨.ofNat i,.ofNat k⟩=false∧Fr σ σ3) (ix g.d d).l.length ?_ ?_
   ·refine ⟨0,by omega,by omega,?_⟩
    simp (config:={ maxSteps:=1000000 }) (disch:=first | assumption | decide | omega) only [go_sem,z3,t1,t2,t3,t9,true_and]
    exact ⟨q0,hno,hf⟩
   ·rintro q tm3 σ3 ⟨j,rfl,hj,t1,t2,t3,t9,t10,q0,hno3,hf3⟩
    have hle3:=hf3.le
    have hT:=hf3.ld hW hT0
    simp (config:={ maxSteps:=1000000 }) (disch:=first | assumption | decide | omega) only [go_sem,z3,t1,t2,t3,t9,t10,ld_blk q0,hdk,hT,hTk,hlenL,lt_ofNat]
    refine ifV_dec (fun hlj=>?_) (fun hlj=>?_)
    ·obtain ⟨b2,o2,c2,rfl,-,hle2,hlk2⟩:=hL.at hlj
     obtain ⟨e,m,hx,he,hm⟩:=hV.l d hlt j hlj
     have hsn:=hasLg_snoc (legsB g.d d j) (ix (ix g.d d).l j) ⟨.ofNat i,.ofNat k⟩
     rw [← legsB_succ' hlj,hno3,Bool.false_or,hx] at hsn
     have hht:=hasLg_hit hlt hlj
     rw [hx] at hle2 hlk2 hht
     have hle2:=hf3.ld hW hle2
     have hlk2:=hf3.ld hW hlk2
     simp (config:={ maxSteps:=1000000 }) (disch:=first | assumption | decide | omega) only [go_sem,z3,t1,t2,t3,t9,t10,ld_blk q0,hdk,hT,hle2]
     refine gsV_dec (fun h1=>?_) (fun h1=>?_)
     ·simp (config:={ maxSteps:=1000000 }) (disch:=first | assumption | decide | omega) only [go_sem,z3,t1,t2,t3,t9,t10,ld_blk q0,hdk,hT,hle2,hlk2,h1]
      refine ifV_dec (fun h2=>?_) (fun h2=>?_)
      ·rw [h1,h2] at hht
       have hlg:isLg g i k=true:=hht
       simp (config:={ maxSteps:=1000000 }) (disch:=first | assumption | decide | omega) only [go_sem,z3,t1,t2,t3,t9,t10,hlg]
       exact ⟨⟨_,_,rfl⟩,hf3⟩
      ·have hno4:hasLg (legsB g.d d (j+1)) ⟨.ofNat i,.ofNat k⟩=false:=by
        rw [hsn]
        show (Int.ofNat e == Int.ofNat i && Int.ofNat m == Int.ofNat k)=false
        rw [show (Int.ofNat m == Int.ofNat k)=false from beq_eq_false_iff_ne.mpr fun e=>h2 (Int.ofNat.inj e),Bool.and_false]
       simp (config:={ maxSteps:=1000000 }) (disch:=first | assumption | decide | omega) only [go_sem,z3,t1,t2,t3,t9,t10]
       exact ⟨(ix g.d d).l.length - (j+1),by omega,j+1,rfl,by omega,rfl,q0,hno4,hf3⟩
     ·have hno4:hasLg (legsB g.d d (j+1)) ⟨.ofNat i,.ofNat k⟩=false:=by
       rw [hsn]
       show (Int.ofNat e == Int.ofNat i && Int.ofNat m == Int.ofNat k)=false
       rw [show (Int.ofNat e == Int.ofNat i)=false from beq_eq_false_iff_ne.mpr fun e=>h1 (Int.ofNat.inj e),Bool.false_and]
      simp (config:={ maxSteps:=1000000 }) (disch:=first | assumption | decide | omega) only [go_sem,z3,t1,t2,t3,t9,t10,h1]
      exact ⟨(ix g.d d).l.length - (j+1),by omega,j+1,rfl,by omega,rfl,q0,hno4,hf3⟩
    ·have:j=(ix g.d d).l.length:=by omega
     subst this
     rw [legsB_next' hlt] at hno3
     simp (config:={ maxSteps:=1000000 }) (disch:=first | assumption | decide | omega) only [go_sem,z3,t1,t2,t3,t9,t10]
     exact ⟨g.d.length - (d+1),by omega,d+1,rfl,by omega,rfl,q0,hno3,hf3⟩
  ·have:d=g.d.length:=by omega
   subst this
   have hlg:isLg g i k=false:=hno
   simp (config:={ maxSteps:=1000000 }) (disch:=first | assumption | decide | omega) only [go_sem,z3,t3]
   exact ⟨⟨_,_,by rw [hlg]⟩,hf⟩
set_option maxRecDepth 10000 in
theorem findleg_x {σ:St} (hW:WF σ) {p:Nat→Prop} {ev dv:B} (g:Grp) (hg:HGrp p σ.h ev dv g) (hs:SmallG 134217728 g) (h0:chkG g=0) (i k:Nat) (hi0:i≤1000) (hk0:k≤1000) :
  CallX EN 89 [.agg [ev,dv],.c (.int .i64 (.ofNat i)),.c (.int .i64 (.ofNat k))] σ fun r σ'=>(∃ a b:Int,r = .tcons (.c (.int .i64 a)) (.tcons (.c (.int .i64 b)) (.tcons (.c (.bool (isLg g i k))) .tnil)))∧Fr σ σ':=by
 refine call_fn (O_r17_FindLeg _ _) F_r17_FindLeg ?_
 unfold a_r17_FindLeg
 have hek:=hg.e.kn
 have hdk:=hg.d.kn
 simp (config:={ maxSteps:=1000000 }) (disch:=first | assumption | decide | omega) only [go_sem,z3,hek,hdk]
 refine CallX.st (Fr σ) (by repeat (first | assumption | exact Fr.refl (by assumption) | exact Fr.up (by assumption) (by first | omega | (dsimp only; omega)) | exact Fr.up (Fr.refl (by assumption)) (by first | omega | (dsimp only; omega)) | refine Fr.set1 ?_ (by first | omega | (dsimp only; omega)) (by first | omega | (dsimp only; omega)) | refine Fr.del1 ?_ (by first | omega | (dsimp only; omega)) | refine Fr.newU ?_ (by first | omega | (dsimp only; omega)))) fun hF=>?_
 rw [x_rCheck (hg.fr hW hF) hs,show chkG g = .ofNat 0 from h0]
 simp (config:={ maxSteps:=1000000 }) (disch:=first | assumption | decide | omega) only [go_sem,z3,hek,hdk]
 refine (leg_x hF.wf g (hg.fr hW hF) (chkG_valid h0) i k hi0 hk0).mono ?_
 rintro _ σ2 ⟨⟨a,b,rfl⟩,hf2⟩
 have hF2:=hF.trans hf2
 simp (config:={ maxSteps:=1000000 }) (disch:=first | assumption | decide | omega) only [go_sem,z3,hek]
 exact ⟨⟨_,_,rfl⟩,hF2⟩
theorem rtA_len (g:Grp) (i:Nat) (acc:List Rt) : ∀ k,(rtA g i acc k).length≤acc.length+k
 | 0=>by unfold rtA; omega
 | k+1=>by
  have:=rtA_len g i acc k
  unfold rtA
  split
  ·rw [List.length_append,List.length_singleton]; omega
  ·omega
theorem rtE_len {g:Grp} (hV:VG g) : ∀ i,i≤g.e.length→(rtE g i).length≤i*24
 | 0,_=>by unfold rtE; simp
 | i+1,h=>by
  have h1:=rtE_len hV i (by omega)
  have h2:=rtA_len g i (rtE g i) (ix g.e i).c.length
  have h3:=hV.nc i (by omega)
  unfold rtE; omega
theorem rtD_len {g:Grp} (hV:VG g) : ∀ d,(rtD g d).length≤192+d
 | 0=>by
  have:=rtE_len hV g.e.length (Nat.le_refl _)
  have:=hV.ne
  unfold rtD; omega
 | d+1=>by
  have:=rtD_len hV d
  unfold rtD
  split
  ·rw [List.length_append,List.length_singleton]; omega
  ·omega
theorem rt_take (l:List Rt):(celR l.length (fun k=>rtB (ix l k))).take (l.length*3)=celR l.length (fun k=>rtB (ix l k)):=cel_take fun _=>rfl
theorem rt_lenC (l:List Rt):l.length*3≤(celR l.length (fun k=>rtB (ix l k))).length:=by rw [cel_len (e:=3) fun _=>rfl]; exact Nat.le_refl _
def RtL (h:Tr Bk) (v:B) (l:List Rt) (lo hi:Nat):Prop:=OwnL h v l.length (fun k=>rtB (ix l k)) 3 123 lo hi
theorem RtL.push {h:Tr Bk} {nx:Nat} {l:List Rt} {x:Rt} {lo:Nat} (hlo:lo≤nx) {cells:List B} (hc:cells=celR l.length (fun k=>rtB (ix l k)) ++ rtB x) (hi:Nat) (hhi:nx<hi):RtL (hset h nx ⟨cells,some (3,123)⟩) (.sl nx 0 (l.length+1) .opn) (l ++ [x]) lo hi:=by
 unfold RtL
 rw [List.length_append,List.length_singleton]
 exact OwnL.snoc (fun _ _=>rfl) hlo hc (fun i hi=>by rw [ix_snoc_lt _ _ hi]) (by rw [ix_snoc_eq]) hi hhi
theorem RtL.cases {h:Tr Bk} {v:B} {l:List Rt} {lo hi:Nat} (ho:RtL h v l lo hi):(l=[]∧v = .nils)∨(0<l.length∧∃ b,v = .sl b 0 l.length .opn∧h b=some ⟨celR l.length (fun k=>rtB (ix l k)),some (3,123)⟩∧lo≤b∧b<hi):=by
 rcases ho with ⟨h1,h2⟩ | ⟨h0,b,rfl,h1,h2,h3⟩
 ·exact .inl ⟨List.eq_nil_of_length_eq_zero h1,h2⟩
 ·exact .inr ⟨h0,b,rfl,h1,h2,h3⟩
theorem RtL.fr {lo:Nat} {σ σ' : St} {v:B} {l:List Rt} (ho:RtL σ.h v l lo σ.nxt) (hf:Fr σ σ'):RtL σ'.h v l lo σ'.nxt:=OwnL.mono ho (fun b _ hb=>hf.old b hb) (Nat.le_refl _) hf.le
theorem HClaims.ldh {p:Nat→Prop} {h:Tr Bk} {v:B} {l:List C5} (hC:HClaims p h v l) {k:Nat} (hk:k<l.length) : ∃ b o c,v = .sl b o l.length c∧ld h b (o+k*5) 1 false=some (.c (.int .i64 (ix l k).h))∧ld h b (o+k*5) 5 true=some (.agg (c5B (ix l k))):=by
 obtain ⟨b,o,c,e,-,hld⟩:=HLp.pos hC (by omega)
 exact ⟨b,o,c,e,ld_sub (hld k hk) 0 1 false (by decide) (by decide),hld k hk⟩
theorem RtL.nil {h:Tr Bk} {lo hi:Nat} : RtL h .nils [] lo hi:=.inl ⟨rfl,rfl⟩
set_option maxRecDepth 10000 in
theorem rrights_x {σ:St} (hW:WF σ) {p:Nat→Prop} {ev dv:B} (g:Grp) (hg:HGrp p σ.h ev dv g) (hs:SmallG 134217728 g) (h0:chkG g=0) :
  CallX EN 52 [.agg [ev,dv]] σ fun r σ'=>∃ rv,r = .c rv∧RtL σ'.h rv (rightsL g) σ.nxt σ'.nxt∧Fr σ σ':=by
 refine call_fn (O_r21_rights _ _) F_r21_rights ?_
 unfold a_r21_rights
 have hV:=chkG_valid h0
 have hek:=hg.e.kn
 have hdk:=hg.d.kn
 have hlenE:=hg.e.len
 have hlenD:=hg.d.choose_spec.1.len
 have hne:=hV.ne
 have hnd:=hV.nd
 simp (config:={ maxSteps:=1000000 }) (disch:=first | assumption | decide | omega) only [go_sem,z3,hek,hdk]
 refine RunX.mono (Q:=fun e tm σ'=>e = .exit 0∧∃ rv,Tr.getV tm 1 = .c (.ptr σ.nxt 0)∧Tr.getV tm 3 = .c rv∧σ'.h σ.nxt=some ⟨[ev,dv],none⟩∧RtL σ'.h rv (rtE g g.e.length) (σ.nxt+1) σ'.nxt∧Fr σ σ')
  (run_loop (fun q tm σ'=>∃ i rv,q=g.e.length - i∧i≤g.e.length∧Tr.getV tm 1 = .c (.ptr σ.nxt 0)∧Tr.getV tm 3 = .c rv∧Tr.getV tm 4 = .c (.int .i64 (.ofNat i))∧σ'.h σ.nxt=some ⟨[ev,dv],none⟩∧RtL σ'.h rv (rtE g i) (σ.nxt+1) σ'.nxt∧Fr σ σ') g.e.length ?_ ?_) ?_
 ·refine ⟨0,.nils,by omega,by omega,?_⟩
  simp (config:={ maxSteps:=1000000 }) (disch:=first | assumption | decide | omega) only [go_sem,z3,true_and]
  exact ⟨.nil,by repeat (first | assumption | exact Fr.refl (by assumption) | exact Fr.up (by assumption) (by first | omega | (dsimp only; omega)) | exact Fr.up (Fr.refl (by assumption)) (by first | omega | (dsimp only; omega)) | refine Fr.set1 ?_ (by first | omega | (dsimp only; omega)) (by first | omega | (dsimp only; omega)) | refine Fr.del1 ?_ (by first | omega | (dsimp only; omega)) | refine Fr.newU ?_ (by first | omega | (dsimp only; omega)))⟩
 ·rintro q tm σ' ⟨i,rv,rfl,hi,t1,t3,t4,q0,hO,hf⟩
  have hle:=hf.le
  simp (config:={ maxSteps:=1000000 }) (disch:=first | assumption | decide | omega) only [go_sem,z3,t1,t3,t4,ld_blk q0,hek,hlenE,lt_ofNat]
  refine ifV_dec (fun hlt=>?_) (fun hlt=>?_)
  ·obtain ⟨b,o,c,rfl,C,A,-,hC0,hC,-⟩:=hg.e.at hlt
   have hCk:=hC.kn
   have hlenC:=hC.len
   have hnc:=hV.nc i hlt
   have hEl:=rtE_len hV i hi
   simp (config:={ maxSteps:=1000000 }) (disch:=first | assumption | decide | omega) only [go_sem,z3,t1,t3,t4]
   refine run_loop (fun q tm σ3=>∃ k rv,q=(ix g.e i).c.length - k∧k≤(ix g.e i).c.length∧Tr.getV tm 1 = .c (.ptr σ.nxt 0)∧Tr.getV tm 3 = .c rv∧Tr.getV tm 4 = .c (.int .i64 (.ofNat i))∧Tr.getV tm 5 = .c (.int .i64 (.ofNat k))
    ∧ σ3.h σ.nxt=some ⟨[.sl b o g.e.length c,dv],none⟩∧RtL σ3.h rv (rtA g i (rtE g i) k) (σ.nxt+1) σ3.nxt∧Fr σ σ3) (ix g.e i).c.length ?_ ?_
   ·refine ⟨0,rv,by omega,by omega,?_⟩
    simp (config:={ maxSteps:=1000000 }) (disch:=first | assumption | decide | omega) only [go_sem,z3,t1,t3,t4,true_and]
    exact ⟨q0,hO,hf⟩
   ·rintro q tm3 σ3 ⟨k,rv3,rfl,hk,t1,t3,t4,t5,q0,hO3,hf3⟩
    have hle3:=hf3.le
    have hC1:=hf3.ld hW hC0
    simp (config:={ maxSteps:=1000000 }) (disch:=first | assumption | decide | omega) only [go_sem,z3,t1,t3,t4,t5,ld_blk q0,hek,hC1,hCk,hlenC,lt_ofNat]
    refine ifV_dec (fun hlk=>?_) (fun hlk=>?_)
    ·simp (config:={ maxSteps:=1000000 }) (disch:=first | assumption | decide | omega) only [go_sem,z3,t1,t3,t4,t5,ld_blk q0,hek,hdk]
     refine (findleg_x hf3.wf g (hg.fr hW hf3) hs h0 i k (by omega) (by omega)).mono ?_
     rintro _ σ4 ⟨⟨x,y,rfl⟩,hf4⟩
     have hF4:=hf3.trans hf4
     have hle4:=hf4.le
     have q04:=hf4.get hf3.wf q0
     have hO4:=hO3.fr hf4
     have hAl:=rtA_len g i (rtE g i) k
     have hA1:rtA g i (rtE g i) (k+1)=if (ix (ix g.e i).c k).h = .negSucc 0∧isLg g i k=false then rtA g i (rtE g i) k ++ [(.negSucc 0,.ofNat i,.ofNat k)] else rtA g i (rtE g i) k:=rfl
     generalize rtA g i (rtE g i) k=L at *
     obtain ⟨b5,o5,c5,rfl,hh0,-⟩:=hC.ldh hlk
     have hC4:=hF4.ld hW hC0
     have hh4:=hF4.ld hW hh0
     cases hlg:isLg g i k with
     | true =>
      rw [hlg,if_neg (fun h=>by cases h.2)] at hA1
      simp (config:={ maxSteps:=1000000 }) (disch:=first | assumption | decide | omega) only [go_sem,z3,t1,t3,t4,t5]
      exact ⟨(ix g.e i).c.length - (k+1),by omega,k+1,rv3,rfl,by omega,rfl,rfl,q04,by rw [hA1]; exact hO4,hF4⟩
     | false =>
      simp (config:={ maxSteps:=1000000 }) (disch:=first | assumption | decide | omega) only [go_sem,z3,t1,t3,t4,t5,ld_blk q04,hek,hC4,hh4]
      refine ifV_dec (fun hh=>?_) (fun hh=>?_)
      ·rw [hlg,if_pos ⟨hh,rfl⟩] at hA1
       rcases hO4.cases with ⟨rfl,rfl⟩ | ⟨hl0,bl,rfl,k1,k2,k3⟩
       ·have hq:=hf4.wf.lt q04
        simp (config:={ maxSteps:=1000000 }) (disch:=first | assumption | decide | omega) only [go_sem,z3,t1,t3,t4,t5]
        refine ⟨(ix g.e i).c.length - (k+1),by omega,k+1,_,rfl,by omega,rfl,rfl,?_,?_,by repeat (first | assumption | exact Fr.refl (by assumption) | exact Fr.up (by assumption) (by first | omega | (dsimp only; omega)) | exact Fr.up (Fr.refl (by assumption)) (by first | omega | (dsimp only; omega)) | refine Fr.set1 ?_ (by first | omega | (dsimp only; omega)) (by first | omega | (dsimp only; omega)) | refine Fr.del1 ?_ (by first | omega | (dsimp only; omega)) | refine Fr.newU ?_ (by first | omega | (dsimp only; omega)))⟩
        ·exact q04
        ·rw [hA1]; exact RtL.push (l:=[]) (by omega) rfl _ (by omega)
       ·have hrl:=rt_lenC L
        have hrt:=rt_take L
        simp (config:={ maxSteps:=1000000 }) (disch:=first | assumption | decide | omega) only [go_sem,z3,t1,t3,t4,t5,k1]
        refine ⟨(ix g.e i).c.length - (k+1),by omega,k+1,_,rfl,by omega,rfl,rfl,?_,?_,by repeat (first | assumption | exact Fr.refl (by assumption) | exact Fr.up (by assumption) (by first | omega | (dsimp only; omega)) | exact Fr.up (Fr.refl (by assumption)) (by first | omega | (dsimp only; omega)) | refine Fr.set1 ?_ (by first | omega | (dsimp only; omega)) (by first | omega | (dsimp only; omega)) | refine Fr.del1 ?_ (by first | omega | (dsimp only; omega)) | refine Fr.newU ?_ (by first | omega | (dsimp only; omega)))⟩
        ·exact q04
        ·rw [hA1]; exact RtL.push (by omega) (by rw [hrt]; rfl) _ (by omega)
      ·rw [hlg,if_neg (fun h=>hh h.1)] at hA1
       simp (config:={ maxSteps:=1000000 }) (disch:=first | assumption | decide | omega) only [go_sem,z3,t1,t3,t4,t5]
       exact ⟨(ix g.e i).c.length - (k+1),by omega,k+1,rv3,rfl,by omega,rfl,rfl,q04,by rw [hA1]; exact hO4,hF4⟩
    ·have:k=(ix g.e i).c.length:=by omega
     subst this
     simp (config:={ maxSteps:=1000000 }) (disch:=first | assumption | decide | omega) only [go_sem,z3,t1,t3,t4,t5]
     exact ⟨g.e.length - (i+1),by omega,i+1,rv3,rfl,by omega,rfl,rfl,q0,hO3,hf3⟩
  ·have:i=g.e.length:=by omega
   subst this
   simp (config:={ maxSteps:=1000000 }) (disch:=first | assumption | decide | omega) only [go_sem,z3,true_and]
   exact ⟨rv,t1,t3,q0,hO,hf⟩
 ·rintro _ tm σ' ⟨rfl,rv,t1,t3,q0,hO,hf⟩
  have hle:=hf.le
  simp (config:={ maxSteps:=1000000 }) (disch:=first | assumption | decide | omega) only [go_sem,z3,t1,t3]
  refine run_loop (fun q tm σ'=>∃ d rv,q=g.d.length - d∧d≤g.d.length∧Tr.getV tm 1 = .c (.ptr σ.nxt 0)∧Tr.getV tm 3 = .c rv∧Tr.getV tm 9 = .c (.int .i64 (.ofNat d))∧σ'.h σ.nxt=some ⟨[ev,dv],none⟩∧RtL σ'.h rv (rtD g d) (σ.nxt+1) σ'.nxt∧Fr σ σ') g.d.length ?_ ?_
  ·refine ⟨0,rv,by omega,by omega,?_⟩
   simp (config:={ maxSteps:=1000000 }) (disch:=first | assumption | decide | omega) only [go_sem,z3,t1,t3,true_and]
   exact ⟨q0,hO,hf⟩
  ·rintro q tm σ' ⟨d,rv,rfl,hd,t1,t3,t9,q0,hO,hf⟩
   have hle:=hf.le
   simp (config:={ maxSteps:=1000000 }) (disch:=first | assumption | decide | omega) only [go_sem,z3,t1,t3,t9,ld_blk q0,hdk,hlenD,lt_ofNat]
   refine ifV_dec (fun hlt=>?_) (fun hlt=>?_)
   ·obtain ⟨bd,od,cd,rfl,T,-,hT0,hL⟩:=hg.d.at hlt
    have hT:=hf.ld hW hT0
    have hTk:=hL.kn
    have hlenL:=hL.len
    have hDl:=rtD_len hV d
    have hD1:rtD g (d+1)=if 0<(ix g.d d).l.length∧holdL g.e (ix (ix g.d d).l 0) = .negSucc 0 then rtD g d ++ [(.ofNat d,.ofNat 0,.ofNat 0)] else rtD g d:=rfl
    generalize rtD g d=L at *
    simp (config:={ maxSteps:=1000000 }) (disch:=first | assumption | decide | omega) only [go_sem,z3,t1,t3,t9,ld_blk q0,hdk,hT,hTk,hlenL,lt_ofNat]
    refine gsV_dec (fun hl=>?_) (fun hl=>?_)
    ·obtain ⟨b2,o2,c2,rfl,-,hle2,hlk2⟩:=hL.at hl
     obtain ⟨e,m,hx,he,hm⟩:=hV.l d hlt 0 hl
     rw [hx] at hle2 hlk2 hD1
     have hle2:=hf.ld hW hle2
     have hlk2:=hf.ld hW hlk2
     obtain ⟨b,o,c,rfl,C,A,-,hC0,hC,-⟩:=hg.e.at he
     obtain ⟨b5,o5,c5,rfl,hh0,-⟩:=hC.ldh hm
     have hC1:=hf.ld hW hC0
     have hh1:=hf.ld hW hh0
     simp (config:={ maxSteps:=1000000 }) (disch:=first | assumption | decide | omega) only [go_sem,z3,t1,t3,t9,ld_blk q0,hek,hT,hle2,hlk2,hC1,hh1,hl]
     refine ifV_dec (fun hh=>?_) (fun hh=>?_)
     ·rw [if_pos ⟨hl,hh⟩] at hD1
      rcases hO.cases with ⟨rfl,rfl⟩ | ⟨hl0,bl,rfl,k1,k2,k3⟩
      ·have hq:=hf.wf.lt q0
       simp (config:={ maxSteps:=1000000 }) (disch:=first | assumption | decide | omega) only [go_sem,z3,t1,t3,t9]
       refine ⟨g.d.length - (d+1),by omega,d+1,_,rfl,by omega,rfl,rfl,?_,?_,by repeat (first | assumption | exact Fr.refl (by assumption) | exact Fr.up (by assumption) (by first | omega | (dsimp only; omega)) | exact Fr.up (Fr.refl (by assumption)) (by first | omega | (dsimp only; omega)) | refine Fr.set1 ?_ (by first | omega | (dsimp only; omega)) (by first | omega | (dsimp only; omega)) | refine Fr.del1 ?_ (by first | omega | (dsimp only; omega)) | refine Fr.newU ?_ (by first | omega | (dsimp only; omega)))⟩
       ·exact q0
       ·rw [hD1]; exact RtL.push (l:=[]) (by omega) rfl _ (by omega)
      ·have hrl:=rt_lenC L
       have hrt:=rt_take L
       simp (config:={ maxSteps:=1000000 }) (disch:=first | assumption | decide | omega) only [go_sem,z3,t1,t3,t9,k1]
       refine ⟨g.d.length - (d+1),by omega,d+1,_,rfl,by omega,rfl,rfl,?_,?_,by repeat (first | assumption | exact Fr.refl (by assumption) | exact Fr.up (by assumption) (by first | omega | (dsimp only; omega)) | exact Fr.up (Fr.refl (by assumption)) (by first | omega | (dsimp only; omega)) | refine Fr.set1 ?_ (by first | omega | (dsimp only; omega)) (by first | omega | (dsimp only; omega)) | refine Fr.del1 ?_ (by first | omega | (dsimp only; omega)) | refine Fr.newU ?_ (by first | omega | (dsimp only; omega)))⟩
       ·exact q0
       ·rw [hD1]; exact RtL.push (by omega) (by rw [hrt]; rfl) _ (by omega)
     ·rw [if_neg (fun h=>hh h.2)] at hD1
      simp (config:={ maxSteps:=1000000 }) (disch:=first | assumption | decide | omega) only [go_sem,z3,t1,t3,t9]
      exact ⟨g.d.length - (d+1),by omega,d+1,rv,rfl,by omega,rfl,rfl,q0,by rw [hD1]; exact hO,hf⟩
    ·rw [if_neg (fun h=>hl h.1)] at hD1
     simp (config:={ maxSteps:=1000000 }) (disch:=first | assumption | decide | omega) only [go_sem,z3,t1,t3,t9,hl]
     exact ⟨g.d.length - (d+1),by omega,d+1,rv,rfl,by omega,rfl,rfl,q0,by rw [hD1]; exact hO,hf⟩
   ·have:d=g.d.length:=by omega
    subst this
    simp (config:={ maxSteps:=1000000 }) (disch:=first | assumption | decide | omega) only [go_sem,z3,t3]
    exact ⟨rv,rfl,OwnL.mono hO (fun _ _ _=>rfl) (by omega) (Nat.le_refl _),hf⟩
end Go.Proofs.Xe
