/- insolvencylaw0: Costs, Flags, in the executor's words; what a charged group reads as. -/
import Derived.Test.YtiaefgffeekfkaaGreatDoorY39
set_option linter.unusedSimpArgs false
set_option linter.unusedVariables false
set_option maxHeartbeats 8000000
namespace Go.Proofs.Xe
open Go.RowKit Go.Proofs.Ins
theorem HTiers.fr {σ σ' : St} (hW:WF σ) (hf:Fr σ σ') {p:Nat→Prop} {v:B} {l:Agr} (hl:HTiers p σ.h v l):HTiers (Lt σ.nxt) σ'.h v l:=by
 obtain ⟨T,h1,h2⟩:=hl
 exact ⟨T,h1.fr hW hf,fun i hi=>(h2 i hi).fr hW hf⟩
set_option maxRecDepth 10000 in
theorem rclean_x {σ:St} (hW:WF σ) {p:Nat→Prop} {ev dv:B} (g:Grp) (hg:HGrp p σ.h ev dv g) (hs:SmallG 1000000 g) (hl:LenG 1000 g) :
  CallX EN 82 [.agg [ev,dv]] σ fun r σ'=>(∃ ov dv',r = .agg [ov,dv']∧CpG g (estM g.e) σ.nxt σ'.h σ'.nxt ov dv')∧Fr σ σ':=by
 refine call_fn (O_r21_Clean _ _) F_r21_Clean ?_
 unfold a_r21_Clean
 have hek:=hg.e.kn
 have hdk:=hg.d.kn
 have hlenE:=hg.e.len
 have hlenD:=hg.d.len
 have hne:=hl.n
 have hnd:=hl.d
 simp (maxSteps:=9^9) (disch:=first|assumption|decide|omega) only [go_sem,z3,hek,hdk]
 refine RunX.mono (Q:=fun ex tm σ'=>ex = .exit 0∧∃ ov C A,Tr.getV tm 1 = .c (.ptr σ.nxt 0)∧Tr.getV tm 2 = .c (.ptr (σ.nxt+1) 0)∧Tr.getV tm 3 = .c (.ptr (σ.nxt+1+1) 0)∧σ'.h σ.nxt=some ⟨[ev,dv],none⟩∧σ'.h (σ.nxt+1)=some ⟨[.nils,.nils],none⟩∧σ'.h (σ.nxt+1+1)=some ⟨[ov,.nils],none⟩
   ∧ NL (RE g.e C A) σ'.h ov g.e.length (ceF (estM g.e) C A) 5 76 (σ.nxt+1+1+1) σ'.nxt∧Fr σ σ'∧σ.nxt+1+1+1≤σ'.nxt)
  (run_loop (fun q tm σ'=>∃ i ov C A,q=g.e.length - i∧i≤g.e.length∧Tr.getV tm 1 = .c (.ptr σ.nxt 0)∧Tr.getV tm 2 = .c (.ptr (σ.nxt+1) 0)∧Tr.getV tm 3 = .c (.ptr (σ.nxt+1+1) 0)∧Tr.getV tm 4 = .c (.int .i64 (.ofNat i))
   ∧ σ'.h σ.nxt=some ⟨[ev,dv],none⟩∧σ'.h (σ.nxt+1)=some ⟨[.nils,.nils],none⟩∧σ'.h (σ.nxt+1+1)=some ⟨[ov,.nils],none⟩∧NL (RE g.e C A) σ'.h ov i (ceF (estM g.e) C A) 5 76 (σ.nxt+1+1+1) σ'.nxt∧Fr σ σ'∧σ.nxt+1+1+1≤σ'.nxt) g.e.length ?_ ?_) ?_
 ·refine ⟨0,.nils,fun _=>.nils,fun _=>.nils,by omega,by omega,?_⟩
  simp (maxSteps:=9^9) (disch:=first|assumption|decide|omega) only [go_sem,z3,true_and]
  exact ⟨NL.nil,fr,by omega⟩
 ·rintro q tm σ' ⟨i,ov,C,A,rfl,hi,t1,t2,t3,t4,q0,q1,q2,hN,hf,hnx⟩
  have hle:=hf.le
  simp (maxSteps:=9^9) (disch:=first|assumption|decide|omega) only [go_sem,z3,t1,t2,t3,t4,ld_blk q0,hek,hlenE,lt_ofNat]
  refine ifV_dec (fun hlt=>?_) (fun hlt=>?_)
  ·obtain ⟨b5,o5,c5,rfl,C1,A1,hld5,-,hC,hA⟩:=hg.e.at hlt
   have hld5:=hf.ld hW hld5
   have hCk:=HLp.kn hC
   have hAk:=hA.kn
   have hlenC:=HLp.len hC
   have hlenA:=hA.len
   have hok:=hN.own.kn
   have hse:=hs.e i hlt
   have hle1:=hl.e i hlt
   have hlc:=hle1.c
   have hla:=hle1.a
   have hm:estM g.e i=(ix g.e i).m.q:=rfl
   have hfm:=fit_two hse.m (by decide)
   have hRE : ∀ C A p h,RE g.e C A p h i=(HClaims p h (C i) ((ix g.e i).c.map clCl)∧HAgrs p h (A i) ((ix g.e i).a.map clAg)):=fun _ _ _ _=>rfl
   simp (maxSteps:=9^9) (disch:=first|assumption|decide|omega) only [go_sem,z3,t1,t2,t3,t4,ld_blk q0,hek,hld5,hCk,hAk,hfm]
   have hmq:rq (ix g.e i).m.n (ix g.e i).m.s (ix g.e i).m.d=estM g.e i:=rfl
   rw [hmq]
   generalize hgm:estM g.e i=mq at *
   generalize hge:ix g.e i=e at *
   refine RunX.mono (Q:=fun ex tm σ5=>ex = .exit 2∧∃ cv,Tr.getV tm 1 = .c (.ptr σ.nxt 0)∧Tr.getV tm 2 = .c (.ptr (σ.nxt+1) 0)∧Tr.getV tm 3 = .c (.ptr (σ.nxt+1+1) 0)∧Tr.getV tm 4 = .c (.int .i64 (.ofNat i))∧Tr.getV tm 5 = .c (.ptr σ'.nxt 0)∧Tr.getV tm 6 = .c (.ptr (σ'.nxt+1) 0)
     ∧ σ5.h σ'.nxt=some ⟨[.bool e.m.n,.str e.m.s,.str e.m.d,C1,A1],none⟩∧σ5.h (σ'.nxt+1)=some ⟨[.bool (rn mq),.str (rs mq),.str (rd mq),cv,.nils],none⟩∧OwnL σ5.h cv e.c.length (ccF e.c) 5 79 (σ'.nxt+1+1) σ5.nxt∧Fr σ' σ5∧σ'.nxt+1+1≤σ5.nxt)
    (run_loop (fun q tm σ5=>∃ k cv,q=e.c.length - k∧k≤e.c.length∧Tr.getV tm 1 = .c (.ptr σ.nxt 0)∧Tr.getV tm 2 = .c (.ptr (σ.nxt+1) 0)∧Tr.getV tm 3 = .c (.ptr (σ.nxt+1+1) 0)∧Tr.getV tm 4 = .c (.int .i64 (.ofNat i))∧Tr.getV tm 5 = .c (.ptr σ'.nxt 0)∧Tr.getV tm 6 = .c (.ptr (σ'.nxt+1) 0)∧Tr.getV tm 7 = .c (.int .i64 (.ofNat k))
     ∧ σ5.h σ'.nxt=some ⟨[.bool e.m.n,.str e.m.s,.str e.m.d,C1,A1],none⟩∧σ5.h (σ'.nxt+1)=some ⟨[.bool (rn mq),.str (rs mq),.str (rd mq),cv,.nils],none⟩∧OwnL σ5.h cv k (ccF e.c) 5 79 (σ'.nxt+1+1) σ5.nxt∧Fr σ' σ5∧σ'.nxt+1+1≤σ5.nxt) e.c.length ?_ ?_) ?_
   ·refine ⟨0,.nils,by omega,by omega,?_⟩
    simp (maxSteps:=9^9) (disch:=first|assumption|decide|omega) only [go_sem,z3,t1,t2,t3,t4,true_and]
    have hFr:=Fr.refl hf.wf
    exact ⟨.nil,fr,by omega⟩
   ·rintro q tm σ5 ⟨k,cv,rfl,hk,t1,t2,t3,t4,t5,t6,t7,q5,q6,hO,hf5,hn5⟩
    have hle5:=hf5.le
    simp (maxSteps:=9^9) (disch:=first|assumption|decide|omega) only [go_sem,z3,t1,t2,t3,t4,t5,t6,t7,ld_blk q5,hCk,hAk,hlenC,lt_ofNat]
    refine ifV_dec (fun hltk=>?_) (fun hltk=>?_)
    ·obtain ⟨b7,o7,c7,rfl,-,hld7⟩:=HLp.pos hC (by omega)
     have hld7:=(hf.trans hf5).ld hW (hld7 k hltk)
     unfold c5B at hld7
     have hfit:=fit_two (hse.c k hltk) (by decide)
     have hok5:=hO.kn
     rcases hO.cases with ⟨rfl,rfl⟩|⟨hk0,b6,rfl,k1,k2,k3⟩
     ·simp (maxSteps:=9^9) (disch:=first|assumption|decide|omega) only [go_sem,z3,t1,t2,t3,t4,t5,t6,t7,ld_blk q5,hCk,hAk,hld7,hfit,ld_blk q6,q6]
      refine ⟨e.c.length - 1,by omega,1,_,rfl,by omega,rfl,q5,rfl,OwnL.of (n:=0) (by rw [hset_ne _ _ _ _ (by omega),hset_get];rfl) (by omega) (by omega),fr,by omega⟩
     ·have hrl:=cel_lenC (n:=k) (G:=ccF e.c) (e:=5) fun _=>rfl
      have hrt:=cel_take (n:=k) (G:=ccF e.c) (e:=5) fun _=>rfl
      simp (maxSteps:=9^9) (disch:=first|assumption|decide|omega) only [go_sem,z3,t1,t2,t3,t4,t5,t6,t7,ld_blk q5,hCk,hAk,hld7,hfit,ld_blk q6,q6,k1]
      refine ⟨e.c.length - (k+1),by omega,k+1,_,rfl,by omega,rfl,q5,rfl,OwnL.of (by rw [hset_ne _ _ _ _ (by omega),hset_get,hrt];rfl) (by omega) (by omega),fr,by omega⟩
    ·have:k=e.c.length:=by omega
     subst this
     simp (maxSteps:=9^9) (disch:=first|assumption|decide|omega) only [go_sem,z3,true_and]
     exact ⟨cv,t1,t2,t3,t4,t5,t6,q5,q6,hO,hf5,hn5⟩
   ·rintro _ tm σ6 ⟨rfl,cv,t1,t2,t3,t4,t5,t6,q5,q6,hO,hf6,hn6⟩
    have hle6:=hf6.le
    have hck:=hO.kn
    simp (maxSteps:=9^9) (disch:=first|assumption|decide|omega) only [go_sem,z3,t1,t2,t3,t4,t5,t6]
    refine RunX.mono (Q:=fun ex tm σ7=>ex = .exit 4∧∃ av T,Tr.getV tm 1 = .c (.ptr σ.nxt 0)∧Tr.getV tm 2 = .c (.ptr (σ.nxt+1) 0)∧Tr.getV tm 3 = .c (.ptr (σ.nxt+1+1) 0)∧Tr.getV tm 4 = .c (.int .i64 (.ofNat i))∧Tr.getV tm 5 = .c (.ptr σ'.nxt 0)∧Tr.getV tm 6 = .c (.ptr (σ'.nxt+1) 0)
      ∧ σ7.h (σ'.nxt+1)=some ⟨[.bool (rn mq),.str (rs mq),.str (rd mq),cv,av],none⟩∧OwnL σ7.h cv e.c.length (ccF e.c) 5 79 (σ'.nxt+1+1) σ6.nxt∧NU (RAi e.a) T σ7.h av e.a.length 82 σ6.nxt σ7.nxt∧Fr σ' σ7∧σ6.nxt≤σ7.nxt)
     (run_loop (fun q tm σ7=>∃ k av T,q=e.a.length - k∧k≤e.a.length∧Tr.getV tm 1 = .c (.ptr σ.nxt 0)∧Tr.getV tm 2 = .c (.ptr (σ.nxt+1) 0)∧Tr.getV tm 3 = .c (.ptr (σ.nxt+1+1) 0)∧Tr.getV tm 4 = .c (.int .i64 (.ofNat i))∧Tr.getV tm 5 = .c (.ptr σ'.nxt 0)∧Tr.getV tm 6 = .c (.ptr (σ'.nxt+1) 0)∧Tr.getV tm 9 = .c (.int .i64 (.ofNat k))
      ∧ σ7.h σ'.nxt=some ⟨[.bool e.m.n,.str e.m.s,.str e.m.d,C1,A1],none⟩∧σ7.h (σ'.nxt+1)=some ⟨[.bool (rn mq),.str (rs mq),.str (rd mq),cv,av],none⟩∧OwnL σ7.h cv e.c.length (ccF e.c) 5 79 (σ'.nxt+1+1) σ6.nxt∧NU (RAi e.a) T σ7.h av k 82 σ6.nxt σ7.nxt∧Fr σ' σ7∧σ6.nxt≤σ7.nxt) e.a.length ?_ ?_) ?_
    ·refine ⟨0,.nils,fun _=>.nils,by omega,by omega,?_⟩
     simp (maxSteps:=9^9) (disch:=first|assumption|decide|omega) only [go_sem,z3,t1,t2,t3,t4,t5,t6,true_and]
     exact ⟨q5,q6,hO,NL.nil,hf6,by omega⟩
    ·rintro q tm σ7 ⟨k,av,T,rfl,hk,t1,t2,t3,t4,t5,t6,t9,q5,q6,hO,hN4,hf7,hn7⟩
     have hle7:=hf7.le
     simp (maxSteps:=9^9) (disch:=first|assumption|decide|omega) only [go_sem,z3,t1,t2,t3,t4,t5,t6,t9,ld_blk q5,hCk,hAk,hlenA,lt_ofNat]
     refine ifV_dec (fun hltk=>?_) (fun hltk=>?_)
     ·obtain ⟨b7,o7,c7,rfl,T1,hld7,hT1⟩:=hA.at hltk
      have hld7:=(hf.trans hf7).ld hW hld7
      have hT1k:=hT1.kn
      have hak:=hN4.kn
      have hlt1:=hle1.t k hltk
      have hlp1:=hle1.p k
      have hfit1:=hse.a k
      have hRA : ∀ u p h,RAi e.a u p h k=HTiers p h u (clAg (ix e.a k)):=fun _ _ _=>rfl
      generalize ix e.a k=a at *
      simp (maxSteps:=9^9) (disch:=first|assumption|decide|omega) only [go_sem,z3,t1,t2,t3,t4,t5,t6,t9,ld_blk q5,hCk,hAk,hld7,hT1k,ld_blk q6,hck,hak]
      refine (rcleanagr_x hf7.wf a (HTiers.fr hW (hf.trans hf7) hT1) hlt1 (fun t ht=>hlp1 t hltk ht) (fun t l ht hl=>hfit1 t l hltk ht hl)).mono ?_
      rintro _ σ8 ⟨⟨A8,rfl,hA8⟩,hf8⟩
      have hF8:=hf7.trans hf8
      have hle8:=hf8.le
      have q58:=hf8.get hf7.wf q5
      have q68:=hf8.get hf7.wf q6
      have hA8k:=hA8.kn
      have hx:RAi e.a A8 (fun b=>σ7.nxt≤b∧b<σ8.nxt) σ8.h k:=by
       rw [hRA];exact hA8
      rcases hN4.cases with ⟨rfl,rfl⟩|⟨hk0,b6,rfl,k1,k2,k3⟩
      ·simp (maxSteps:=9^9) (disch:=first|assumption|decide|omega) only [go_sem,z3,t1,t2,t3,t4,t5,t6,t9,hA8k,hck,ld_blk q68,q68]
       refine ⟨e.a.length - 1,by omega,1,_,updF T 0 A8,rfl,by omega,rfl,q58,rfl,?_,?_,fr,by omega⟩
       ·exact hO.mono (fun b h1 h2=>by rw [hset_ne _ _ _ _ (by omega),hset_ne _ _ _ _ (by omega),hset_ne _ _ _ _ (by omega),hf8.old b (by omega)]) (Nat.le_refl _) (Nat.le_refl _)
       ·refine hN4.push (rk_A e.a) hx (fun b _ hb=>hf8.old b hb) hle8 (by omega) (by omega) hn7 (cells:=[A8]) rfl ?_ fun b h1 h2 _=>?_
        ·rw [hset_ne _ _ _ _ (by omega),hset_get]
        ·rw [hset_ne _ _ _ _ (by omega),hset_ne _ _ _ _ (by omega),hset_ne _ _ _ _ (by omega)]
      ·have k1':=hf8.get hf7.wf k1
       have hrl:=cel_lenC (n:=k) (G:=fun j=>[T j]) (e:=1) fun _=>rfl
       have hrt:=cel_take (n:=k) (G:=fun j=>[T j]) (e:=1) fun _=>rfl
       simp (maxSteps:=9^9) (disch:=first|assumption|decide|omega) only [go_sem,z3,t1,t2,t3,t4,t5,t6,t9,hA8k,hck,ld_blk q68,q68,k1']
       refine ⟨e.a.length - (k+1),by omega,k+1,_,updF T k A8,rfl,by omega,rfl,q58,rfl,?_,?_,fr,by omega⟩
       ·exact hO.mono (fun b h1 h2=>by rw [hset_ne _ _ _ _ (by omega),hset_ne _ _ _ _ (by omega),hdel_ne _ _ _ (by omega),hset_ne _ _ _ _ (by omega),hf8.old b (by omega)]) (Nat.le_refl _) (Nat.le_refl _)
       ·refine hN4.push (rk_A e.a) hx (fun b _ hb=>hf8.old b hb) hle8 (by omega) (by omega) hn7 rfl ?_ fun b h1 h2 h3=>?_
        ·rw [hset_ne _ _ _ _ (by omega),hset_get,hrt]
        ·have h3:=h3 _ _ _ rfl
         rw [hset_ne _ _ _ _ (by omega),hset_ne _ _ _ _ (by omega),hdel_ne _ _ _ (by omega),hset_ne _ _ _ _ (by omega)]
     ·have:k=e.a.length:=by omega
      subst this
      simp (maxSteps:=9^9) (disch:=first|assumption|decide|omega) only [go_sem,z3,true_and]
      exact ⟨av,T,t1,t2,t3,t4,t5,t6,q6,hO,hN4,hf7,hn7⟩
    ·rintro _ tm σ7 ⟨rfl,av,T,t1,t2,t3,t4,t5,t6,q6,hO,hN4,hf7,hn7⟩
     have hle7:=hf7.le
     have hak:=hN4.kn
     have q27:=hf7.get hf.wf q2
     have q07:=hf7.get hf.wf q0
     have q17:=hf7.get hf.wf q1
     have hC3:HClaims (fun b=>σ'.nxt≤b∧b<σ7.nxt) σ7.h cv (e.c.map clCl):=hO.claims fun b h1 h2=>⟨by omega,by omega⟩
     have hA3:HAgrs (fun b=>σ'.nxt≤b∧b<σ7.nxt) σ7.h av (e.a.map clAg):=hN4.agrs.keep (fun _ _=>rfl) fun b hb=>⟨by omega,hb.2⟩
     have hf07:=hf.trans hf7
     rcases hN.own.cases with ⟨rfl,rfl⟩|⟨hi0,b6,rfl,k1,k2,k3⟩
     ·simp (maxSteps:=9^9) (disch:=first|assumption|decide|omega) only [go_sem,z3,t1,t2,t3,t4,t5,t6,ld_blk q6,hck,hak,ld_blk q27,q27]
      refine ⟨g.e.length - 1,by omega,1,_,updF C 0 cv,updF A 0 av,rfl,by omega,rfl,q07,q17,rfl,?_,fr,by omega⟩
      refine hN.pushE (x:=cv) (y:=av) (by rw [hge];exact hC3) (by rw [hge];exact hA3) (fun b _ hb=>hf7.old b hb) (by omega) (Nat.le_succ _) (by omega) hnx (cells:=[.bool (rn mq),.str (rs mq),.str (rd mq),cv,av]) (by rw [hgm];rfl) ?_ fun b h1 h2 _=>?_
      ·rw [hset_ne _ _ _ _ (by omega),hset_get]
      ·rw [hset_ne _ _ _ _ (by omega),hset_ne _ _ _ _ (by omega),hset_ne _ _ _ _ (by omega)]
     ·have k1':=hf7.get hf.wf k1
      have hrl:=cel_lenC (n:=i) (G:=ceF (estM g.e) C A) (e:=5) fun _=>rfl
      have hrt:=cel_take (n:=i) (G:=ceF (estM g.e) C A) (e:=5) fun _=>rfl
      simp (maxSteps:=9^9) (disch:=first|assumption|decide|omega) only [go_sem,z3,t1,t2,t3,t4,t5,t6,ld_blk q6,hck,hak,ld_blk q27,q27,k1']
      refine ⟨g.e.length - (i+1),by omega,i+1,_,updF C i cv,updF A i av,rfl,by omega,rfl,q07,q17,rfl,?_,fr,by omega⟩
      refine hN.pushE (x:=cv) (y:=av) (by rw [hge];exact hC3) (by rw [hge];exact hA3) (fun b _ hb=>hf7.old b hb) (by omega) (Nat.le_succ _) (by omega) hnx (cells:=celR i (ceF (estM g.e) C A) ++ [.bool (rn mq),.str (rs mq),.str (rd mq),cv,av]) (by rw [hgm]) ?_ fun b h1 h2 h3=>?_
      ·rw [hset_ne _ _ _ _ (by omega),hset_get,hrt]
      ·have h3:=h3 _ _ _ rfl
       rw [hset_ne _ _ _ _ (by omega),hset_ne _ _ _ _ (by omega),hdel_ne _ _ _ (by omega),hset_ne _ _ _ _ (by omega)]
  ·have:i=g.e.length:=by omega
   subst this
   simp (maxSteps:=9^9) (disch:=first|assumption|decide|omega) only [go_sem,z3,true_and]
   exact ⟨ov,C,A,t1,t2,t3,q0,q1,q2,hN,hf,hnx⟩
 ·rintro _ tm σ2 ⟨rfl,ov,C,A,t1,t2,t3,q0,q1,q2,hN,hf,hnx⟩
  have hle2:=hf.le
  have hok:=hN.own.kn
  simp (maxSteps:=9^9) (disch:=first|assumption|decide|omega) only [go_sem,z3,t1,t2,t3]
  refine RunX.mono (Q:=fun ex tm σ'=>ex = .exit 6∧∃ dv' L,Tr.getV tm 2 = .c (.ptr (σ.nxt+1) 0)∧Tr.getV tm 3 = .c (.ptr (σ.nxt+1+1) 0)∧σ'.h (σ.nxt+1)=some ⟨[.nils,.nils],none⟩∧σ'.h (σ.nxt+1+1)=some ⟨[ov,dv'],none⟩
    ∧ NL (RE g.e C A) σ'.h ov g.e.length (ceF (estM g.e) C A) 5 76 (σ.nxt+1+1+1) σ2.nxt∧NL (RD g.d L) σ'.h dv' g.d.length (dbF g.d L) 4 113 σ2.nxt σ'.nxt∧Fr σ σ'∧σ2.nxt≤σ'.nxt)
   (run_loop (fun q tm σ'=>∃ i dv' L,q=g.d.length - i∧i≤g.d.length∧Tr.getV tm 1 = .c (.ptr σ.nxt 0)∧Tr.getV tm 2 = .c (.ptr (σ.nxt+1) 0)∧Tr.getV tm 3 = .c (.ptr (σ.nxt+1+1) 0)∧Tr.getV tm 10 = .c (.int .i64 (.ofNat i))
    ∧ σ'.h σ.nxt=some ⟨[ev,dv],none⟩∧σ'.h (σ.nxt+1)=some ⟨[.nils,.nils],none⟩∧σ'.h (σ.nxt+1+1)=some ⟨[ov,dv'],none⟩∧NL (RE g.e C A) σ'.h ov g.e.length (ceF (estM g.e) C A) 5 76 (σ.nxt+1+1+1) σ2.nxt∧NL (RD g.d L) σ'.h dv' i (dbF g.d L) 4 113 σ2.nxt σ'.nxt∧Fr σ σ'∧σ2.nxt≤σ'.nxt) g.d.length ?_ ?_) ?_
  ·refine ⟨0,.nils,fun _=>.nils,by omega,by omega,?_⟩
   simp (maxSteps:=9^9) (disch:=first|assumption|decide|omega) only [go_sem,z3,t1,t2,t3,true_and]
   exact ⟨q0,q1,q2,hN,NL.nil,hf,by omega⟩
  ·rintro q tm σ' ⟨i,dv',L,rfl,hi,t1,t2,t3,t10,q0,q1,q2,hN,hD,hf,hn2⟩
   have hle:=hf.le
   simp (maxSteps:=9^9) (disch:=first|assumption|decide|omega) only [go_sem,z3,t1,t2,t3,t10,ld_blk q0,hdk,hlenD,lt_ofNat]
   refine ifV_dec (fun hlt=>?_) (fun hlt=>?_)
   ·obtain ⟨b5,o5,c5,rfl,T1,hld5,hT⟩:=hg.d.el hlt
    have hld5:=hf.ld hW hld5
    have hTk:=HLp.kn hT
    have hdk':=hD.own.kn
    have hsw:=fit_two (hs.w i hlt) (by decide)
    have hll:=hl.l i hlt
    have hF5:Fr σ ⟨hset (hset (hset σ'.h σ'.nxt ⟨[.bool (rn 0),.str (rs 0),.str (rd 0),.nils],none⟩) σ'.nxt ⟨[.bool (ix g.d i).w.n,.str (ix g.d i).w.s,.str (ix g.d i).w.d,T1],none⟩) (σ'.nxt+1) ⟨[],none⟩,σ'.nxt+1+1⟩:=fr
    have hap:=fun s=>appX_hl (HLp.fr hW hF5 hT) 90 16 s
    by_cases hl0:(ix g.d i).l.length=0
    ·rw [hl0] at hap
     rcases hD.own.cases with ⟨rfl,rfl⟩|⟨hi0,b6,rfl,k1,k2,k3⟩
     ·simp (maxSteps:=9^9) (disch:=first|assumption|decide|omega) only [go_sem,z3,t1,t2,t3,t10,ld_blk q0,hdk,hld5,hTk,hsw,hok,hdk',ld_blk q2,q2,hap]
      refine ⟨g.d.length - 1,by omega,1,_,updF L 0 (.sl (σ'.nxt+1) 0 0 (.ex 0)),rfl,by omega,rfl,q0,q1,rfl,?_,?_,fr,by omega⟩
      ·refine NL.mono hN (fun j _=>qk_E g.e C A j) ?_ (Nat.le_refl _)
       intro b h1 h2
       repeat (first|rw [hset_ne _ _ _ _ (by omega)]|rw [hdel_ne _ _ _ (by omega)])
      ·refine hD.pushD (x:=(.sl (σ'.nxt+1) 0 0 (.ex 0))) (h1:=(hset (hset (hset σ'.h σ'.nxt ⟨[.bool (rn 0),.str (rs 0),.str (rd 0),.nils],none⟩) σ'.nxt ⟨[.bool (ix g.d 0).w.n,.str (ix g.d 0).w.s,.str (ix g.d 0).w.d,T1],none⟩) (σ'.nxt+1) ⟨[],none⟩)) (hi1:=(σ'.nxt+1+1)) (.inr ⟨σ'.nxt+1,0,.ex 0,by rw [hl0],fun h=>by omega,fun j hj=>by omega⟩) ?_ (by omega) (Nat.le_succ _) (by omega) hn2 (cells:=[.bool (rn (ix g.d 0).w.q),.str (rs (ix g.d 0).w.q),.str (rd (ix g.d 0).w.q),(.sl (σ'.nxt+1) 0 0 (.ex 0))])  rfl ?_ ?_
       ·intro b h1 h2
        repeat (first|rw [hset_ne _ _ _ _ (by omega)]|rw [hdel_ne _ _ _ (by omega)])
       ·rw [hset_ne _ _ _ _ (by omega),hset_get];rfl
       ·intro b h1 h2 _
        rw [hset_ne _ _ _ _ (by omega),hset_ne _ _ _ _ (by omega),hset_ne _ _ _ _ (by omega)]
     ·have hrl:=cel_lenC (n:=i) (G:=dbF g.d L) (e:=4) fun _=>rfl
      have hrt:=cel_take (n:=i) (G:=dbF g.d L) (e:=4) fun _=>rfl
      simp (maxSteps:=9^9) (disch:=first|assumption|decide|omega) only [go_sem,z3,t1,t2,t3,t10,ld_blk q0,hdk,hld5,hTk,hsw,hok,hdk',ld_blk q2,q2,hap,k1]
      refine ⟨g.d.length - (i+1),by omega,i+1,_,updF L i (.sl (σ'.nxt+1) 0 0 (.ex 0)),rfl,by omega,rfl,q0,q1,rfl,?_,?_,fr,by omega⟩
      ·refine NL.mono hN (fun j _=>qk_E g.e C A j) ?_ (Nat.le_refl _)
       intro b h1 h2
       repeat (first|rw [hset_ne _ _ _ _ (by omega)]|rw [hdel_ne _ _ _ (by omega)])
      ·refine hD.pushD (x:=(.sl (σ'.nxt+1) 0 0 (.ex 0))) (h1:=(hset (hset (hset σ'.h σ'.nxt ⟨[.bool (rn 0),.str (rs 0),.str (rd 0),.nils],none⟩) σ'.nxt ⟨[.bool (ix g.d i).w.n,.str (ix g.d i).w.s,.str (ix g.d i).w.d,T1],none⟩) (σ'.nxt+1) ⟨[],none⟩)) (hi1:=(σ'.nxt+1+1)) (.inr ⟨σ'.nxt+1,0,.ex 0,by rw [hl0],fun h=>by omega,fun j hj=>by omega⟩) ?_ (by omega) (Nat.le_succ _) (by omega) hn2 (cells:=celR i (dbF g.d L) ++ [.bool (rn (ix g.d i).w.q),.str (rs (ix g.d i).w.q),.str (rd (ix g.d i).w.q),(.sl (σ'.nxt+1) 0 0 (.ex 0))])  rfl ?_ ?_
       ·intro b h1 h2
        repeat (first|rw [hset_ne _ _ _ _ (by omega)]|rw [hdel_ne _ _ _ (by omega)])
       ·rw [hset_ne _ _ _ _ (by omega),hset_get,hrt];rfl
       ·intro b h1 h2 h3
        have h3:=h3 _ _ _ rfl
        rw [hset_ne _ _ _ _ (by omega),hset_ne _ _ _ _ (by omega),hdel_ne _ _ _ (by omega),hset_ne _ _ _ _ (by omega)]
    ·rcases hD.own.cases with ⟨rfl,rfl⟩|⟨hi0,b6,rfl,k1,k2,k3⟩
     ·simp (maxSteps:=9^9) (disch:=first|assumption|decide|omega) only [go_sem,z3,t1,t2,t3,t10,ld_blk q0,hdk,hld5,hTk,hsw,hok,hdk',ld_blk q2,q2,hap]
      refine ⟨g.d.length - 1,by omega,1,_,updF L 0 (.sl (σ'.nxt+1+1) 0 (ix g.d 0).l.length .opn),rfl,by omega,rfl,q0,q1,rfl,?_,?_,fr,by omega⟩
      ·refine NL.mono hN (fun j _=>qk_E g.e C A j) ?_ (Nat.le_refl _)
       intro b h1 h2
       repeat (first|rw [hset_ne _ _ _ _ (by omega)]|rw [hdel_ne _ _ _ (by omega)])
      ·refine hD.pushD (x:=(.sl (σ'.nxt+1+1) 0 (ix g.d 0).l.length .opn)) (h1:=(hset (hset (hset (hset σ'.h σ'.nxt ⟨[.bool (rn 0),.str (rs 0),.str (rd 0),.nils],none⟩) σ'.nxt ⟨[.bool (ix g.d 0).w.n,.str (ix g.d 0).w.s,.str (ix g.d 0).w.d,T1],none⟩) (σ'.nxt+1) ⟨[],none⟩) (σ'.nxt+1+1) ⟨celR (ix g.d 0).l.length (fun k=>lgB (ix (ix g.d 0).l k)),some (2,90)⟩)) (hi1:=(σ'.nxt+1+1+1)) (cel_hlp _ (hset_get _ _ _) (by rw [rdo_s _ _ (by omega)]) ⟨by omega,by omega⟩ (fun _=>rfl) (by decide) fun _ _=>rfl) ?_ (by omega) (Nat.le_succ _) (by omega) hn2 (cells:=[.bool (rn (ix g.d 0).w.q),.str (rs (ix g.d 0).w.q),.str (rd (ix g.d 0).w.q),(.sl (σ'.nxt+1+1) 0 (ix g.d 0).l.length .opn)])  rfl ?_ ?_
       ·intro b h1 h2
        repeat (first|rw [hset_ne _ _ _ _ (by omega)]|rw [hdel_ne _ _ _ (by omega)])
       ·rw [hset_ne _ _ _ _ (by omega),hset_get];rfl
       ·intro b h1 h2 _
        rw [hset_ne _ _ _ _ (by omega),hset_ne _ _ _ _ (by omega),hset_ne _ _ _ _ (by omega)]
     ·have hrl:=cel_lenC (n:=i) (G:=dbF g.d L) (e:=4) fun _=>rfl
      have hrt:=cel_take (n:=i) (G:=dbF g.d L) (e:=4) fun _=>rfl
      simp (maxSteps:=9^9) (disch:=first|assumption|decide|omega) only [go_sem,z3,t1,t2,t3,t10,ld_blk q0,hdk,hld5,hTk,hsw,hok,hdk',ld_blk q2,q2,hap,k1]
      refine ⟨g.d.length - (i+1),by omega,i+1,_,updF L i (.sl (σ'.nxt+1+1) 0 (ix g.d i).l.length .opn),rfl,by omega,rfl,q0,q1,rfl,?_,?_,fr,by omega⟩
      ·refine NL.mono hN (fun j _=>qk_E g.e C A j) ?_ (Nat.le_refl _)
       intro b h1 h2
       repeat (first|rw [hset_ne _ _ _ _ (by omega)]|rw [hdel_ne _ _ _ (by omega)])
      ·refine hD.pushD (x:=(.sl (σ'.nxt+1+1) 0 (ix g.d i).l.length .opn)) (h1:=(hset (hset (hset (hset σ'.h σ'.nxt ⟨[.bool (rn 0),.str (rs 0),.str (rd 0),.nils],none⟩) σ'.nxt ⟨[.bool (ix g.d i).w.n,.str (ix g.d i).w.s,.str (ix g.d i).w.d,T1],none⟩) (σ'.nxt+1) ⟨[],none⟩) (σ'.nxt+1+1) ⟨celR (ix g.d i).l.length (fun k=>lgB (ix (ix g.d i).l k)),some (2,90)⟩)) (hi1:=(σ'.nxt+1+1+1)) (cel_hlp _ (hset_get _ _ _) (by rw [rdo_s _ _ (by omega)]) ⟨by omega,by omega⟩ (fun _=>rfl) (by decide) fun _ _=>rfl) ?_ (by omega) (Nat.le_succ _) (by omega) hn2 (cells:=celR i (dbF g.d L) ++ [.bool (rn (ix g.d i).w.q),.str (rs (ix g.d i).w.q),.str (rd (ix g.d i).w.q),(.sl (σ'.nxt+1+1) 0 (ix g.d i).l.length .opn)])  rfl ?_ ?_
       ·intro b h1 h2
        repeat (first|rw [hset_ne _ _ _ _ (by omega)]|rw [hdel_ne _ _ _ (by omega)])
       ·rw [hset_ne _ _ _ _ (by omega),hset_get,hrt];rfl
       ·intro b h1 h2 h3
        have h3:=h3 _ _ _ rfl
        rw [hset_ne _ _ _ _ (by omega),hset_ne _ _ _ _ (by omega),hdel_ne _ _ _ (by omega),hset_ne _ _ _ _ (by omega)]
   ·have:i=g.d.length:=by omega
    subst this
    simp (maxSteps:=9^9) (disch:=first|assumption|decide|omega) only [go_sem,z3,true_and]
    exact ⟨dv',L,t2,t3,q1,q2,hN,hD,hf,hn2⟩
  ·rintro _ tm σ3 ⟨rfl,dv',L,t2,t3,q1,q2,hN,hD,hf,hn2⟩
   have hdk':=hD.own.kn
   have hle3:=hf.le
   simp (maxSteps:=9^9) (disch:=first|assumption|decide|omega) only [go_sem,z3,t2,t3,ld_blk q2,hok,hdk',sto_blk q1]
   refine ⟨⟨_,_,rfl,C,A,σ2.nxt,?_,?_,by omega,hn2⟩,fr⟩
   ·have:=NL.mono hN (fun j _=>qk_E g.e C A j) (h':=hset σ3.h (σ.nxt+1) ⟨[ov,dv'],none⟩) (fun b h1 h2=>hset_ne _ _ _ _ (by omega)) (Nat.le_refl _)
    exact NL.down this (fun j _=>qk_E g.e C A j) (by omega)
   ·exact hD.dbts.keep (fun b hb=>hset_ne _ _ _ _ (by omega)) fun b hb=>hb
set_option maxRecDepth 10000 in
theorem rcheckcosts_x {σ:St} (hW:WF σ) {p p1:Nat→Prop} {ev dv cv:B} (g:Grp) (hg:HGrp p σ.h ev dv g) (K:Nat→Rat) (hC:HLp p1 σ.h 3 cv g.e.length fun j=>ratC (K j)) (hK : ∀ j,Sz (K j)) (hn:g.e.length≤1000) :
  CallX EN 44 [.agg [ev,dv],.c cv] σ fun r σ'=>r = .c (.int .i64 (negE K g.e.length))∧Fr σ σ':=by
 refine call_fn (O_r21_checkCosts _ _) F_r21_checkCosts ?_
 unfold a_r21_checkCosts
 have hek:=hg.e.kn
 have hdk:=hg.d.kn
 have hlenE:=hg.e.len
 have hlenC:=hC.len
 have hd:decide (Int.ofNat g.e.length=Int.ofNat g.e.length)=true:=decide_eq_true rfl
 generalize g.e.length=n at *
 simp (maxSteps:=9^9) (disch:=first|assumption|decide|omega) only [go_sem,z3,hek,hdk,hlenE,hlenC,hd]
 refine run_loop (fun q tm σ'=>∃ j,q=n - j∧j≤n∧Tr.getV tm 1 = .c cv∧Tr.getV tm 5 = .c (.int .i64 (.ofNat j))∧negB K j=false∧Fr σ σ') n ?_ ?_
 ·refine ⟨0,by omega,by omega,?_⟩
  simp (maxSteps:=9^9) (disch:=first|assumption|decide|omega) only [go_sem,z3,true_and]
  exact ⟨rfl,fr⟩
 ·rintro q tm σ' ⟨j,rfl,hj,t1,t5,hb,hf⟩
  simp (maxSteps:=9^9) (disch:=first|assumption|decide|omega) only [go_sem,z3,t1,t5,hlenC,lt_ofNat]
  refine ifV_dec (fun hlt=>?_) (fun hlt=>?_)
  ·obtain ⟨b,o,c,rfl,-,hld⟩:=hC.pos (by omega)
   have hld:=hf.ld hW (hld j hlt)
   have hk2:=(hK j).two
   have hk1:=hK j
   unfold ratC at hld
   have hn1:negB K (j+1)=(negB K j || decide (K j<0)):=rfl
   simp (maxSteps:=9^9) (disch:=first|assumption|decide|omega) only [go_sem,z3,t1,t5,hld,hk1,hk2,sg_lt]
   refine ifV_dec (fun hq=>?_) (fun hq=>?_)
   ·rw [hb,decide_eq_true hq] at hn1
    simp (maxSteps:=9^9) (disch:=first|assumption|decide|omega) only [go_sem,z3,true_and]
    exact ⟨by unfold negE;rw [negB_mono hn1 n (by omega)];rfl,hf⟩
   ·rw [hb,decide_eq_false hq] at hn1
    simp (maxSteps:=9^9) (disch:=first|assumption|decide|omega) only [go_sem,z3,t1,t5]
    exact ⟨n - (j+1),by omega,j+1,rfl,by omega,rfl,hn1,hf⟩
  ·have:j=n:=by omega
   subst this
   simp (maxSteps:=9^9) (disch:=first|assumption|decide|omega) only [go_sem,z3,true_and]
   exact ⟨by unfold negE;rw [hb];rfl,hf⟩
theorem chM_pos (m K:Nat→Rat) (F:Nat→Bool) (i:Nat) (h:F i=true):chM m K F (i+1)=fun j=>if j=i then posR (chM m K F i i - K i) else chM m K F i j:=by
 rw [chM_step m K F i h,maxR_zero]
set_option maxRecDepth 10000 in
theorem rcharge_x {σ:St} (hW:WF σ) {p p1 p2:Nat→Prop} {ev dv cv iv:B} (g:Grp) (hg:HGrp p σ.h ev dv g) (hs:SmallG 1000000 g) (hl:LenG 1000 g) (K:Nat→Rat) (F:Nat→Bool) (hC:HLp p1 σ.h 3 cv g.e.length fun j=>ratC (K j)) (hI:HLp p2 σ.h 1 iv g.e.length fun j=>[.bool (F j)]) (hK : ∀ j,Sm 1000 (K j)) :
  CallX EN 45 [.agg [ev,dv],.c cv,.c iv] σ fun r σ'=>(∃ ov dv',r = .agg [ov,dv']∧CpG g (chM (estM g.e) K F g.e.length) σ.nxt σ'.h σ'.nxt ov dv')∧Fr σ σ':=by
 refine call_fn (O_r21_charge _ _) F_r21_charge ?_
 unfold a_r21_charge
 have hek:=hg.e.kn
 have hdk:=hg.d.kn
 have hlenI:=hI.len
 have hne:=hl.n
 simp (maxSteps:=9^9) (disch:=first|assumption|decide|omega) only [go_sem,z3,hek,hdk]
 refine CallX.st (Fr σ) (fr) fun hF=>?_
 refine (rclean_x hF.wf g (hg.fr hW hF) hs hl).mono ?_
 rintro _ σ1 ⟨⟨ov,dv',rfl,C,A,mid,hN,hD,hm1,hm2⟩,hf1⟩
 have hF1:=hF.trans hf1
 have hle1:σ.nxt+1+1≤σ1.nxt:=hf1.le
 have hm1:σ.nxt+1+1≤mid:=hm1
 have q1:σ1.h (σ.nxt+1)=some ⟨[.nils,.nils],none⟩:=hf1.get hF.wf (hset_get _ _ _)
 have hok:=hN.own.kn
 have hlenO:=hN.own.len
 have hdk':=hD.kn
 have h00:chM (estM g.e) K F 0=estM g.e:=by funext j;exact if_neg fun h=>by omega
 simp (maxSteps:=9^9) (disch:=first|assumption|decide|omega) only [go_sem,z3,hok,hdk']
 refine run_loop (fun q tm σ'=>∃ i,q=g.e.length - i∧i≤g.e.length∧Tr.getV tm 1 = .c cv∧Tr.getV tm 2 = .c iv∧Tr.getV tm 6 = .c (.ptr (σ.nxt+1) 0)∧Tr.getV tm 7 = .c (.ptr σ1.nxt 0)∧Tr.getV tm 8 = .c (.int .i64 (.ofNat i))
  ∧ σ'.h (σ.nxt+1)=some ⟨[.nils,.nils],none⟩∧σ'.h σ1.nxt=some ⟨[ov,dv'],none⟩∧NL (RE g.e C A) σ'.h ov g.e.length (ceF (chM (estM g.e) K F i) C A) 5 76 (σ.nxt+1+1) mid∧HDbts (fun b=>mid≤b∧b<σ1.nxt) σ'.h dv' (g.d.map clDb)∧Fr σ σ'∧σ1.nxt+1≤σ'.nxt) g.e.length ?_ ?_
 ·refine ⟨0,by omega,by omega,?_⟩
  simp (maxSteps:=9^9) (disch:=first|assumption|decide|omega) only [go_sem,z3,true_and]
  refine ⟨q1,?_,?_,fr,by omega⟩
  ·rw [h00]
   refine NL.mono hN (fun j _=>qk_E g.e C A j) ?_ (Nat.le_refl _)
   intro b h1 h2
   rw [hset_ne _ _ _ _ (by omega),hset_ne _ _ _ _ (by omega)]
  ·refine hD.keep ?_ fun b hb=>hb
   intro b hb
   have:=hb.2
   rw [hset_ne _ _ _ _ (by omega),hset_ne _ _ _ _ (by omega)]
 ·rintro q tm σ' ⟨i,rfl,hi,t1,t2,t6,t7,t8,q1,q7,hN,hD,hf,hnx⟩
  have hle:=hf.le
  simp (maxSteps:=9^9) (disch:=first|assumption|decide|omega) only [go_sem,z3,t1,t2,t6,t7,t8,ld_blk q7,hok,hdk',hlenO,lt_ofNat]
  refine ifV_dec (fun hlt=>?_) (fun hlt=>?_)
  ·obtain ⟨b5,o5,c5,rfl,-,hld5⟩:=hI.pos (by omega)
   have hld5:=hf.ld hW (ld_one (hld5 i hlt)).1
   obtain ⟨b6,o6,c6,rfl,-,hld6⟩:=hC.pos (by omega)
   have hld6:=hf.ld hW (hld6 i hlt)
   unfold ratC at hld6
   cases hFi:F i with
   | false =>
    rw [hFi] at hld5
    simp (maxSteps:=9^9) (disch:=first|assumption|decide|omega) only [go_sem,z3,t1,t2,t6,t7,t8,hld5]
    refine ⟨g.e.length - (i+1),by omega,i+1,rfl,by omega,rfl,q1,q7,by rw [chM_skip _ _ _ _ hFi];exact hN,hD,hf,hnx⟩
   | true =>
    rw [hFi] at hld5
    rcases hN with ⟨h0,-⟩|⟨h0,ob,rfl,k1,k2,k3,k4⟩
    ·omega
    have hN:NL (RE g.e C A) σ'.h (.sl ob 0 g.e.length .opn) g.e.length (ceF (chM (estM g.e) K F i) C A) 5 76 (σ.nxt+1+1) mid:=.inr ⟨h0,ob,rfl,k1,k2,k3,k4⟩
    have hldE:=cel_ld (e:=5) (i:=i) k1 (by rw [rdo_s _ _ (by omega)]) (fun _=>rfl) (by decide) hN.ekn hlt
    have hldM:=ld_sub hldE 0 3 true (by decide) (by decide)
    rw [Nat.zero_add,Nat.add_zero] at hldM
    unfold ceF rdC at hldM
    rw [chM_at] at hldM
    simp only [List.drop_zero,List.take_succ_cons,List.take_zero,List.length_cons,List.length_nil,List.all_cons,List.all_nil,kn_bool,kn_str,Bool.and_self,Nat.reduceAdd,Nat.beq_refl,cond_true] at hldM
    have hsM:Sz (estM g.e i):=fit_sz (hs.e i hlt).m (by decide)
    have hsK:Sz (K i):=(hK i).mono (by unfold szK;omega)
    have hsS:Sz (estM g.e i - K i):=sz_sub (hs.e i hlt).m (hK i)
    have hz:=Sz.zero
    have hwr:=ceF_wr (m:=chM (estM g.e) K F i) (C:=C) (A:=A) hlt (posR (estM g.e i - K i))
    simp (maxSteps:=9^9) (disch:=first|assumption|decide|omega) only [go_sem,z3,t1,t2,t6,t7,t8,hld5,ld_blk q7,hok,hdk',hld6,hldM,hsM,hsK,hsS,hz,sto_blk k1,hwr]
    refine ⟨g.e.length - (i+1),by omega,i+1,rfl,by omega,rfl,q1,q7,?_,?_,fr,hnx⟩
    ·rw [chM_pos _ _ _ _ hFi,chM_at]
     exact hN.setM (hset_get _ _ _) fun x hx=>hset_ne _ _ _ _ (by omega)
    ·refine hD.keep ?_ fun b hb=>hb
     intro b hb
     have:=hb.1
     exact hset_ne _ _ _ _ (by omega)
  ·have:i=g.e.length:=by omega
   subst this
   simp (maxSteps:=9^9) (disch:=first|assumption|decide|omega) only [go_sem,z3,t6,t7,ld_blk q7,hok,hdk',sto_blk q1]
   refine ⟨⟨_,_,rfl,C,A,mid,?_,?_,by omega,by omega⟩,fr⟩
   ·refine NL.down (NL.mono hN (fun j _=>qk_E g.e C A j) ?_ (Nat.le_refl _)) (fun j _=>qk_E g.e C A j) (by omega)
    intro b h1 h2
    exact hset_ne _ _ _ _ (by omega)
   ·refine hD.keep ?_ fun b hb=>⟨hb.1,by omega⟩
    intro b hb
    have:=hb.1
    exact hset_ne _ _ _ _ (by omega)
set_option maxRecDepth 10000 in
theorem rCharge_x {σ:St} (hW:WF σ) {p p1 p2:Nat→Prop} {ev dv cv iv:B} (g:Grp) (hg:HGrp p σ.h ev dv g) (hs:SmallG 1000000 g) (hs2:SmallG 134217728 g) (hl:LenG 1000 g) (K:Nat→Rat) (F:Nat→Bool) (hC:HLp p1 σ.h 3 cv g.e.length fun j=>ratC (K j)) (hI:HLp p2 σ.h 1 iv g.e.length fun j=>[.bool (F j)]) (hK : ∀ j,Sm 1000 (K j)) :
  CallX EN 18 [.agg [ev,dv],.c cv,.c iv] σ fun r σ'=>ChV g K F σ.nxt σ' r∧Fr σ σ':=by
 refine call_fn (O_r21_Charge _ _) F_r21_Charge ?_
 unfold a_r21_Charge
 have hek:=hg.e.kn
 have hdk:=hg.d.kn
 have hck:=hC.kn
 have hik:=hI.kn
 have hlenE:=hg.e.len
 have hlenI:=hI.len
 have hKs : ∀ j,Sz (K j):=fun j=>(hK j).mono (by unfold szK;omega)
 have hd:decide (Int.ofNat g.e.length=Int.ofNat g.e.length)=true:=decide_eq_true rfl
 simp (maxSteps:=9^9) (disch:=first|assumption|decide|omega) only [go_sem,z3,hek,hdk]
 refine CallX.st (Fr σ) (fr) fun hF=>?_
 rw [x_rCheck (hg.fr hW hF) hs2]
 by_cases h0:chkG g = .ofNat 0
 ·have hE:setE g K=negE K g.e.length:=if_pos h0
  rw [h0]
  simp (maxSteps:=9^9) (disch:=first|assumption|decide|omega) only [go_sem,z3,hek,hdk,hlenE,hlenI,hd]
  refine (rcheckcosts_x hF.wf g (hg.fr hW hF) K (hC.fr hW hF) hKs hl.n).mono ?_
  rintro _ σ1 ⟨rfl,hf1⟩
  have hF1:=hF.trans hf1
  have hle1:σ.nxt+1+1≤σ1.nxt:=hf1.le
  have q0:σ1.h σ.nxt=some ⟨[ev,dv],none⟩:=hf1.get hF.wf ((hset_ne _ _ _ _ (by omega)).trans (hset_get _ _ _))
  have q1:σ1.h (σ.nxt+1)=some ⟨[.nils,.nils],none⟩:=hf1.get hF.wf (hset_get _ _ _)
  rw [← hE]
  by_cases h0:setE g K = .ofNat 0
  ·rw [h0]
   simp (maxSteps:=9^9) (disch:=first|assumption|decide|omega) only [go_sem,z3,ld_blk q0,hek,hdk]
   refine (rcharge_x hf1.wf g (hg.fr hW hF1) hs hl K F (hC.fr hW hF1) (hI.fr hW hF1) hK).mono ?_
   rintro _ σ2 ⟨⟨ov,dv',rfl,hR⟩,hf2⟩
   have hF2:=hF1.trans hf2
   have hle2:=hf2.le
   have q1':=hf2.get hf1.wf q1
   obtain ⟨k1,k2⟩:=hR.kn
   simp (maxSteps:=9^9) (disch:=first|assumption|decide|omega) only [go_sem,z3,sto_blk q1',k1,k2]
   refine ⟨.inr ⟨h0,ov,dv',rfl,?_⟩,fr⟩
   refine hR.mono ?_ (by omega) (Nat.le_refl _)
   intro b h1 h2
   exact hset_ne _ _ _ _ (by omega)
  ·have h1:decide (setE g K = .ofNat 0)=false:=decide_eq_false h0
   simp (maxSteps:=9^9) (disch:=first|assumption|decide|omega) only [go_sem,z3,h1,sto_blk q1]
   exact ⟨.inl ⟨h0,rfl⟩,fr⟩
 ·have h1:decide (chkG g = .ofNat 0)=false:=decide_eq_false h0
  have hE:setE g K=chkG g:=if_neg h0
  simp (maxSteps:=9^9) (disch:=first|assumption|decide|omega) only [go_sem,z3,hek,hdk,h1]
  exact ⟨.inl ⟨by rw [hE];exact h0,by rw [hE]⟩,fr⟩
def costQ (M:Nat→Nat) (n:Nat) (j:Nat):Rat:=if j<n∧M j%3≠0 then amt (M j/3) else 0
theorem costQ_sm (M:Nat→Nat) (n j:Nat):Sm 1000 (costQ M n j):=by
 unfold costQ
 split
 ·exact (amt_small _).mono (by omega)
 ·exact (xsm_int (i:=0) (k:=3) (by decide) (by decide)).mono (by omega)
set_option maxRecDepth 10000 in
theorem costs_x {σ:St} (hW:WF σ) {p:Nat→Prop} {ev dv:B} (g:Grp) (hg:HGrp p σ.h ev dv g) (hn:g.e.length≤1000) {n:Nat} {v:B} (M:Nat→Nat) (hv:HL σ.h 1 v n fun i=>[.int .u16 (.ofNat (M i))]) (hM : ∀ i,i<n→M i≤65535) :
  CallX EN 15 [.agg [ev,dv],.c v] σ fun r σ'=>∃ rv,r = .c rv∧OwnL σ'.h rv g.e.length (fun k=>ratC (costQ M n k)) 3 71 σ.nxt σ'.nxt∧Fr σ σ':=by
 refine call_fn (O_l0_Costs _ _) F_l0_Costs ?_
 unfold a_l0_Costs
 have hek:=hg.e.kn
 have hdk:=hg.d.kn
 have hlenE:=hg.e.len
 have hlen:=hv.len
 generalize g.e.length=m at *
 simp (maxSteps:=9^9) (disch:=first|assumption|decide|omega) only [go_sem,z3,hek,hdk,hlenE]
 refine run_loop (fun q tm σ'=>∃ i rv,q=m - i∧i≤m∧Tr.getV tm 1 = .c v∧Tr.getV tm 5 = .c rv∧Tr.getV tm 10 = .c (.int .i64 (.ofNat m))∧Tr.getV tm 11 = .c (.int .i64 (.ofNat i))∧OwnL σ'.h rv i (fun k=>ratC (costQ M n k)) 3 71 σ.nxt σ'.nxt∧Fr σ σ') m ?_ ?_
 ·refine ⟨0,.nils,by omega,by omega,?_⟩
  simp (maxSteps:=9^9) (disch:=first|assumption|decide|omega) only [go_sem,z3,true_and]
  exact ⟨.nil,fr⟩
 ·rintro q tm σ' ⟨i,rv,rfl,hi,t1,t5,t10,t11,hO,hf⟩
  have hle:=hf.le
  simp (maxSteps:=9^9) (disch:=first|assumption|decide|omega) only [go_sem,z3,t1,t5,t10,t11,lt_ofNat]
  refine ifV_dec (fun hlt=>?_) (fun hlt=>?_)
  ·simp (maxSteps:=9^9) (disch:=first|assumption|decide|omega) only [go_sem,z3,t1,t5,t10,t11,hlen,lt_ofNat]
   refine gsV_dec (fun h1=>?_) (fun h1=>?_)
   ·obtain ⟨b,o,c,rfl,hld⟩:=hv.one (by omega)
    have hld:=hf.ld hW (hld i h1)
    have hb:=hf.wf.ld_lt hld
    have hMi:=hM i h1
    simp (maxSteps:=9^9) (disch:=first|assumption|decide|omega) only [go_sem,z3,t1,t5,t10,t11,h1,hld]
    refine ifV_dec (fun hm=>?_) (fun hm=>?_)
    ·have hq:costQ M n i=0:=if_neg fun h=>h.2 (by simpa using hm)
     rcases hO.cases with ⟨rfl,rfl⟩|⟨h0,bo,rfl,k1,k2,k3⟩
     ·simp (maxSteps:=9^9) (disch:=first|assumption|decide|omega) only [go_sem,z3,t1,t5,t10,t11]
      refine ⟨m - 1,by omega,1,_,rfl,by omega,rfl,rfl,OwnL.of (n:=0) (by rw [hset_get];show _=some (Bk.mk (celR 0 _ ++ ratC (costQ M n 0)) _);rw [hq];rfl) (by omega) (by omega),fr⟩
     ·have hrl:=cel_lenC (n:=i) (G:=fun k=>ratC (costQ M n k)) (e:=3) fun _=>rfl
      have hrt:=cel_take (n:=i) (G:=fun k=>ratC (costQ M n k)) (e:=3) fun _=>rfl
      simp (maxSteps:=9^9) (disch:=first|assumption|decide|omega) only [go_sem,z3,t1,t5,t10,t11,k1]
      refine ⟨m - (i+1),by omega,i+1,_,rfl,by omega,rfl,rfl,OwnL.of (by rw [hset_get,hrt];show _=some (Bk.mk (celR i _ ++ ratC (costQ M n i)) _);rw [hq];rfl) (by omega) (by omega),fr⟩
    ·have hq:costQ M n i=amt (M i/3):=if_pos ⟨h1,by simpa using hm⟩
     have h3:M i/3≤65535:=by omega
     rcases hO.cases with ⟨rfl,rfl⟩|⟨h0,bo,rfl,k1,k2,k3⟩
     ·simp (maxSteps:=9^9) (disch:=first|assumption|decide|omega) only [go_sem,z3,t1,t5,t10,t11,hld,h3]
      refine ⟨m - 1,by omega,1,_,rfl,by omega,rfl,rfl,OwnL.of (n:=0) (by rw [hset_get];show _=some (Bk.mk (celR 0 _ ++ ratC (costQ M n 0)) _);rw [hq];rfl) (by omega) (by omega),fr⟩
     ·have hrl:=cel_lenC (n:=i) (G:=fun k=>ratC (costQ M n k)) (e:=3) fun _=>rfl
      have hrt:=cel_take (n:=i) (G:=fun k=>ratC (costQ M n k)) (e:=3) fun _=>rfl
      simp (maxSteps:=9^9) (disch:=first|assumption|decide|omega) only [go_sem,z3,t1,t5,t10,t11,hld,h3,k1]
      refine ⟨m - (i+1),by omega,i+1,_,rfl,by omega,rfl,rfl,OwnL.of (by rw [hset_get,hrt];show _=some (Bk.mk (celR i _ ++ ratC (costQ M n i)) _);rw [hq];rfl) (by omega) (by omega),fr⟩
   ·have hq:costQ M n i=0:=if_neg fun h=>h1 h.1
    rcases hO.cases with ⟨rfl,rfl⟩|⟨h0,bo,rfl,k1,k2,k3⟩
    ·simp (maxSteps:=9^9) (disch:=first|assumption|decide|omega) only [go_sem,z3,t1,t5,t10,t11,h1]
     refine ⟨m - 1,by omega,1,_,rfl,by omega,rfl,rfl,OwnL.of (n:=0) (by rw [hset_get];show _=some (Bk.mk (celR 0 _ ++ ratC (costQ M n 0)) _);rw [hq];rfl) (by omega) (by omega),fr⟩
    ·have hrl:=cel_lenC (n:=i) (G:=fun k=>ratC (costQ M n k)) (e:=3) fun _=>rfl
     have hrt:=cel_take (n:=i) (G:=fun k=>ratC (costQ M n k)) (e:=3) fun _=>rfl
     simp (maxSteps:=9^9) (disch:=first|assumption|decide|omega) only [go_sem,z3,t1,t5,t10,t11,h1,k1]
     refine ⟨m - (i+1),by omega,i+1,_,rfl,by omega,rfl,rfl,OwnL.of (by rw [hset_get,hrt];show _=some (Bk.mk (celR i _ ++ ratC (costQ M n i)) _);rw [hq];rfl) (by omega) (by omega),fr⟩
  ·have:i=m:=by omega
   subst this
   simp (maxSteps:=9^9) (disch:=first|assumption|decide|omega) only [go_sem,z3,t5]
   exact ⟨rv,rfl,hO,hf⟩
def flagB (x j:Nat):Bool:=decide (x/2 ^ min (j%16) 16 &&& 1=1)
def flF (x i:Nat):Nat→B:=fun j=>.bool (if j<i then flagB x j else false)
theorem flF_set (x i:Nat):updF (flF x i) i (.bool (flagB x i))=flF x (i+1):=by
 funext j
 unfold updF flF
 by_cases h:j=i
 ·subst h;rw [if_pos rfl,if_pos (by omega)]
 ·rw [if_neg h]
  congr 1
  by_cases h1:j<i
  ·rw [if_pos h1,if_pos (by omega)]
  ·rw [if_neg h1,if_neg (by omega)]
theorem flF_zero (x n:Nat):(ones n fun _=>B.bool false)=ones n (flF x 0):=ones_congr fun j _=>by unfold flF;rw [if_neg (by omega)]
theorem flF_end (x n:Nat):ones n (flF x n)=ones n fun j=>.bool (flagB x j):=ones_congr fun j hj=>by unfold flF;rw [if_pos hj]
set_option maxRecDepth 10000 in
theorem flags_x {σ:St} (hW:WF σ) (x:Nat) (hx:x≤65535) (n:Nat) (hn:n≤1000) :
  CallX EN 16 [.c (.int .u16 (.ofNat x)),.c (.int .i64 (.ofNat n))] σ fun r σ'=>(∃ b,r = .c (.sl b 0 n (.ex n))∧σ'.h b=some ⟨ones n (fun j=>.bool (flagB x j)),none⟩∧σ.nxt≤b∧b<σ'.nxt)∧Fr σ σ':=by
 refine call_fn (O_l0_Flags _ _) F_l0_Flags ?_
 unfold a_l0_Flags
 simp (maxSteps:=9^9) (disch:=first|assumption|decide|omega) only [go_sem,z3]
 refine run_loop (fun q tm σ'=>∃ i,q=n - i∧i≤n∧Tr.getV tm 0 = .c (.int .u16 (.ofNat x))∧Tr.getV tm 5 = .c (.sl σ.nxt 0 n (.ex n))∧Tr.getV tm 10 = .c (.int .i64 (.ofNat n))∧Tr.getV tm 11 = .c (.int .i64 (.ofNat i))∧σ'.h σ.nxt=some ⟨ones n (flF x i),none⟩∧Fr σ σ'∧σ.nxt<σ'.nxt) n ?_ ?_
 ·refine ⟨0,by omega,by omega,?_⟩
  simp (maxSteps:=9^9) (disch:=first|assumption|decide|omega) only [go_sem,z3,true_and]
  refine ⟨?_,fr,by omega⟩
  rw [flF_zero x n]
 ·rintro q tm σ' ⟨i,rfl,hi,t0,t5,t10,t11,q0,hf,hnx⟩
  have hle:=hf.le
  simp (maxSteps:=9^9) (disch:=first|assumption|decide|omega) only [go_sem,z3,t0,t5,t10,t11,lt_ofNat]
  refine ifV_dec (fun hlt=>?_) (fun hlt=>?_)
  ·have hp:x/2 ^ min (i%16) 16≤65535:=Nat.le_trans (Nat.div_le_self _ _) hx
   have hfl:flagB x i=decide (x/2 ^ min (i%16) 16 &&& 1=1):=rfl
   have hfs:=flF_set x i
   rw [hfl] at hfs
   simp (maxSteps:=9^9) (disch:=first|assumption|decide|omega) only [go_sem,z3,t0,t5,t10,t11,hp,sto_blk q0]
   rw [hfs]
   exact ⟨n - (i+1),by omega,i+1,rfl,by omega,rfl,rfl,fr,hnx⟩
  ·have:i=n:=by omega
   subst this
   rw [flF_end] at q0
   simp (maxSteps:=9^9) (disch:=first|assumption|decide|omega) only [go_sem,z3,t5]
   exact ⟨⟨_,rfl,q0,by omega,hnx⟩,hf⟩
def cpG (g:Grp) (m:Nat→Rat):Grp:=⟨(List.range g.e.length).map fun i=>⟨ofQ (m i),(ix g.e i).c.map clCl,(ix g.e i).a.map clAg⟩,g.d.map clDb⟩
theorem CpG.grp {g:Grp} {m:Nat→Rat} {lo hi:Nat} {h:Tr Bk} {ov dv:B} (hc:CpG g m lo h hi ov dv):HGrp (fun _=>True) h ov dv (cpG g m):=by
 obtain ⟨C,A,mid,h1,h2,-⟩:=hc
 have hl:(cpG g m).e.length=g.e.length:=by unfold cpG;simp
 have hix : ∀ i,i<g.e.length→ix (cpG g m).e i=⟨ofQ (m i),(ix g.e i).c.map clCl,(ix g.e i).a.map clAg⟩:=fun i hi=>ix_map_range _ hi
 refine ⟨⟨C,A,?_,fun i hi=>?_⟩,h2.keep (fun _ _=>rfl) fun _ _=>trivial⟩
 ·rw [hl]
  refine (OwnL.hlp (p:=fun _=>True) h1.own (fun _=>rfl) (by decide) (fun j hj=>h1.ekn j hj) fun _ _ _=>trivial).congr fun j hj=>?_
  rw [hix j hj];rfl
 ·rw [hl] at hi
  rw [hix i hi]
  have:=h1.el (fun j _=>qk_E g.e C A j) hi
  exact ⟨HLp.keep this.1 (fun _ _=>rfl) fun _ _=>trivial,this.2.keep (fun _ _=>rfl) fun _ _=>trivial⟩
theorem cpG_len {g:Grp} {m:Nat→Rat} {k:Nat} (hl:LenG k g):LenG k (cpG g m):=by
 have he:(cpG g m).e.length=g.e.length:=by unfold cpG;simp
 have hd:(cpG g m).d.length=g.d.length:=by unfold cpG;simp
 refine ⟨fun i hi=>?_,by rw [he];exact hl.n,by rw [hd];exact hl.d,fun j hj=>?_⟩
 ·rw [he] at hi
  rw [show ix (cpG g m).e i=⟨ofQ (m i),(ix g.e i).c.map clCl,(ix g.e i).a.map clAg⟩ from ix_map_range _ hi]
  have h1:=hl.e i hi
  have hla:((ix g.e i).a.map clAg).length=(ix g.e i).a.length:=List.length_map ..
  refine ⟨by show ((ix g.e i).c.map clCl).length≤k;rw [List.length_map];exact h1.c,by show ((ix g.e i).a.map clAg).length≤k;rw [hla];exact h1.a,fun j hj=>?_,fun j t hj ht=>?_⟩
  ·have hj:j<(ix g.e i).a.length:=by rw [← hla];exact hj
   show (ix ((ix g.e i).a.map clAg) j).length≤k
   rw [ix_map _ _ hj,clAg,List.length_map]
   exact h1.t j hj
  ·have hj:j<(ix g.e i).a.length:=by rw [← hla];exact hj
   have ht:t<(ix ((ix g.e i).a.map clAg) j).length:=ht
   show (ix (ix ((ix g.e i).a.map clAg) j) t).length≤k
   rw [ix_map _ _ hj] at ht ⊢
   rw [clAg,List.length_map] at ht
   rw [clAg,ix_map _ _ ht,clTr,List.length_map]
   exact h1.p j t hj ht
 ·rw [hd] at hj
  show (ix (g.d.map clDb) j).l.length≤k
  rw [ix_map _ _ hj]
  exact hl.l j hj
end Go.Proofs.Xe
