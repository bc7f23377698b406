/- insolvencylaw0: taken, owe, in the executor's words. -/
import Derived.Test.YtiaefgffeekfkaaGreatDoorY35
set_option linter.unusedSimpArgs false
set_option linter.unusedVariables false
set_option maxHeartbeats 8000000
namespace Go.Proofs.Xe
open Go.RowKit Go.Proofs.Ins
theorem HDbts.lt {σ:St} (hW:WF σ) {p:Nat→Prop} {v:B} {l:List Dbt} (hl:HDbts p σ.h v l):HDbts (Lt σ.nxt) σ.h v l:=by
 obtain ⟨L,h3,h4⟩:=hl
 exact ⟨L,h3.lt hW,fun i hi=>(h4 i hi).lt hW⟩
theorem HDbts.fr {σ σ' : St} (hW:WF σ) (hf:Fr σ σ') {p:Nat→Prop} {v:B} {l:List Dbt} (hl:HDbts p σ.h v l):HDbts (Lt σ.nxt) σ'.h v l:=(hl.lt hW).keep hf.lt fun _ h=>h
def LenD (dl:List Dbt):Prop:=dl.length≤1000∧∀ j,j<dl.length→(ix dl j).l.length≤1000
set_option maxRecDepth 10000 in
theorem taken_x {σ:St} (hW:WF σ) {p:Nat→Prop} {ev dv:B} (dl:List Dbt) (hD:HDbts p σ.h dv dl) (hl:LenD dl) (h1:ev.kn=true) (i c:Int) :
  CallX EN 86 [.agg [ev,dv],.c (.int .i64 i),.c (.int .i64 c)] σ fun r σ'=>(∃ b,r = .c (.bool b))∧Fr σ σ':=by
 refine call_fn (O_l0_taken _ _) F_l0_taken ?_
 unfold a_l0_taken
 obtain ⟨T,hT,hT2⟩:=hD
 have hlen:=hT.len
 have hkn:=hT.kn
 simp (maxSteps:=9^9) (disch:=first|assumption|decide|omega) only [go_sem,z3,hkn,hlen,h1]
 refine run_loop (fun q tm σ'=>∃ j,q=dl.length - j∧j≤dl.length∧Tr.getV tm 1 = .c (.int .i64 i)∧Tr.getV tm 2 = .c (.int .i64 c)∧Tr.getV tm 12 = .c dv∧Tr.getV tm 13 = .c (.int .i64 (.ofNat dl.length))∧Tr.getV tm 14 = .c (.int .i64 (.ofNat j))∧Fr σ σ') dl.length ?_ ?_
 ·refine ⟨0,by omega,by omega,?_⟩
  simp (maxSteps:=9^9) (disch:=first|assumption|decide|omega) only [go_sem,z3,true_and]
  exact fr
 ·rintro q tm σ' ⟨j,rfl,hj,t1,t2,t12,t13,t14,hf⟩
  have hle:=hf.le
  have hl0:=hl.1
  simp (maxSteps:=9^9) (disch:=first|assumption|decide|omega) only [go_sem,z3,t1,t2,t12,t13,t14,lt_ofNat]
  refine ifV_dec (fun hlt=>?_) (fun hlt=>?_)
  ·obtain ⟨b,o,cc,rfl,-,hld⟩:=hT.pos (by omega)
   have hld:=hf.ld hW (hld j hlt)
   have hTj:=hT2 j hlt
   have hlj:=hl.2 j hlt
   generalize hag:ix dl j=ag at *
   have hlenU:=hTj.len
   have hknU:=hTj.kn
   simp (maxSteps:=9^9) (disch:=first|assumption|decide|omega) only [go_sem,z3,t1,t2,t12,t13,t14,hld,hknU,hlenU]
   refine run_loop (fun q tm σ3=>∃ t,q=ag.l.length - t∧t≤ag.l.length∧Tr.getV tm 1 = .c (.int .i64 i)∧Tr.getV tm 2 = .c (.int .i64 c)∧Tr.getV tm 12 = .c (.sl b o dl.length cc)∧Tr.getV tm 13 = .c (.int .i64 (.ofNat dl.length))∧Tr.getV tm 14 = .c (.int .i64 (.ofNat j))
    ∧ Tr.getV tm 19 = .c (T j)∧Tr.getV tm 20 = .c (.int .i64 (.ofNat ag.l.length))∧Tr.getV tm 21 = .c (.int .i64 (.ofNat t))∧Fr σ σ3) ag.l.length ?_ ?_
   ·refine ⟨0,by omega,by omega,?_⟩
    simp (maxSteps:=9^9) (disch:=first|assumption|decide|omega) only [go_sem,z3,t1,t2,t12,t13,t14,true_and]
    exact fr
   ·rintro q tm3 σ3 ⟨t,rfl,ht,t1,t2,t12,t13,t14,t19,t20,t21,hf3⟩
    have hle3:=hf3.le
    simp (maxSteps:=9^9) (disch:=first|assumption|decide|omega) only [go_sem,z3,t1,t2,t12,t13,t14,t19,t20,t21,lt_ofNat]
    refine ifV_dec (fun hlt3=>?_) (fun hlt3=>?_)
    ·obtain ⟨b3,o3,c3,e3,-,hld3⟩:=hTj.pos (by omega)
     have hld3:=hf3.ld hW (hld3 t hlt3)
     unfold lgB at hld3
     rw [e3] at t19
     simp (maxSteps:=9^9) (disch:=first|assumption|decide|omega) only [go_sem,z3,t1,t2,t12,t13,t14,t19,t20,t21,hld3]
     refine gsV_dec (fun hq=>?_) (fun hq=>?_)
     ·simp (maxSteps:=9^9) (disch:=first|assumption|decide|omega) only [go_sem,z3,t1,t2,t12,t13,t14,t19,t20,t21,hq]
      refine ifV_dec (fun hq2=>?_) (fun hq2=>?_)
      ·simp (maxSteps:=9^9) (disch:=first|assumption|decide|omega) only [go_sem,z3,t1]
       exact ⟨⟨_,rfl⟩,fr⟩
      ·simp (maxSteps:=9^9) (disch:=first|assumption|decide|omega) only [go_sem,z3,t1,t2,t12,t13,t14,t19,t20,t21]
       exact ⟨ag.l.length - (t+1),by omega,t+1,rfl,by omega,by rw [e3],rfl,fr⟩
     ·simp (maxSteps:=9^9) (disch:=first|assumption|decide|omega) only [go_sem,z3,t1,t2,t12,t13,t14,t19,t20,t21,hq]
      exact ⟨ag.l.length - (t+1),by omega,t+1,rfl,by omega,by rw [e3],rfl,fr⟩
    ·have:t=ag.l.length:=by omega
     subst this
     simp (maxSteps:=9^9) (disch:=first|assumption|decide|omega) only [go_sem,z3,t1,t2,t12,t13,t14]
     exact ⟨dl.length - (j+1),by omega,j+1,rfl,by omega,rfl,hf3⟩
  ·have:j=dl.length:=by omega
   subst this
   simp (maxSteps:=9^9) (disch:=first|assumption|decide|omega) only [go_sem,z3,t1]
   exact ⟨⟨_,rfl⟩,hf⟩
structure LI (σ σ' : St) (ev dv:B) (d0 d1 d2:Nat) (w:Rat) (l:List Ins.Lg) (bl:Nat):Prop where
 q1:σ'.h σ.nxt=some ⟨[ev,dv],none⟩
 q2:σ'.h (σ.nxt+1)=some ⟨[.int .u16 (.ofNat d0),.int .u16 (.ofNat d1),.int .u16 (.ofNat d2)],none⟩
 b:σ'.h (σ.nxt+1+1)=some ⟨[.bool (rn w),.str (rs w),.str (rd w),famV l bl],none⟩
 lb:0<l.length→σ'.h bl=some ⟨celR l.length (fun k=>lgB (ix l k)),some (2,90)⟩∧σ.nxt+1+1+1≤bl∧bl<σ'.nxt
 n:l.length≤4
 nx:σ.nxt+1+1+1≤σ'.nxt
 fr:Fr σ σ'
section
variable {σ σ' : St} {ev dv:B} {d0 d1 d2:Nat} {w:Rat} {l:List Ins.Lg} {bl:Nat}
theorem LI.step (hL:LI σ σ' ev dv d0 d1 d2 w l bl) {σ3:St} (hf:Fr σ' σ3):LI σ σ3 ev dv d0 d1 d2 w l bl:=by
 have hn:=hL.nx
 have hle:=hf.le
 refine ⟨?_,?_,?_,fun h0=>?_,hL.n,by omega,hL.fr.trans hf⟩
 ·rw [hf.old _ (by omega)];exact hL.q1
 ·rw [hf.old _ (by omega)];exact hL.q2
 ·rw [hf.old _ (by omega)];exact hL.b
 ·obtain ⟨k1,k2,k3⟩:=hL.lb h0
  exact ⟨by rw [hf.old _ k3];exact k1,k2,by omega⟩
theorem LI.push (hL:LI σ σ' ev dv d0 d1 d2 w l bl) {nx n' : Nat} {x:Ins.Lg} {h' : Tr Bk} (hl:l.length≤3) (hb:h' (σ.nxt+1+1)=some ⟨[.bool (rn w),.str (rs w),.str (rd w),.sl nx 0 (l.length+1) .opn],none⟩)
  (hx:h' nx=some ⟨celR l.length (fun k=>lgB (ix l k)) ++ lgB x,some (2,90)⟩) (ho : ∀ b,b<σ.nxt+1+1→h' b=σ'.h b) (hn:σ'.nxt≤nx) (hn' : nx<n') (hf:Fr σ ⟨h',n'⟩):LI σ ⟨h',n'⟩ ev dv d0 d1 d2 w (l ++ [x]) nx:=by
 have hn1:=hL.nx
 refine ⟨by rw [ho _ (by omega)];exact hL.q1,by rw [ho _ (by omega)];exact hL.q2,?_,fun _=>⟨?_,by omega,hn'⟩,by simp;omega,by show _≤n';omega,hf⟩
 ·rw [famV_pos (by simp),List.length_append];exact hb
 ·rw [List.length_append,List.length_singleton]
  show h' nx=_
  rw [hx,cel_snoc]
  congr 2
  refine cel_congr fun k hk=>?_
  unfold updG
  split
  ·next e=>rw [e,ix_snoc_eq]
  ·rw [ix_snoc_lt _ _ (by omega)]
theorem LI.set (hL:LI σ σ' ev dv d0 d1 d2 w l bl) {h' : Tr Bk} {l' : List Ins.Lg} (h0:0<l.length) (hl:l'.length=l.length) (hb:h' bl=some ⟨celR l.length (fun k=>lgB (ix l' k)),some (2,90)⟩) (ho : ∀ b,b≠bl→h' b=σ'.h b) (hf:Fr σ ⟨h',σ'.nxt⟩):LI σ ⟨h',σ'.nxt⟩ ev dv d0 d1 d2 w l' bl:=by
 have hn1:=hL.nx
 obtain ⟨k1,k2,k3⟩:=hL.lb h0
 refine ⟨by rw [ho _ (by omega)];exact hL.q1,by rw [ho _ (by omega)];exact hL.q2,?_,fun _=>⟨by rw [hl];exact hb,k2,k3⟩,by rw [hl];exact hL.n,hL.nx,hf⟩
 rw [ho _ (by omega),hL.b]
 unfold famV
 rw [hl]
theorem lg_len (l:List Ins.Lg):l.length*2≤(celR l.length (fun k=>lgB (ix l k))).length:=by rw [cel_len (e:=2) fun _=>rfl];exact Nat.le_refl _
theorem lg_take (l:List Ins.Lg):(celR l.length (fun k=>lgB (ix l k))).take (l.length*2)=celR l.length (fun k=>lgB (ix l k)):=cel_take fun _=>rfl
theorem lg_wr {n i:Nat} (l:List Ins.Lg) (hn:l.length=n) (y:Ins.Lg) (hi:i<n):wrC (celR n fun k=>lgB (ix l k)) (i*2) [.int .i64 y.e,.int .i64 y.k]=some (celR n fun k=>lgB (ix (l.set i y) k)):=by
 have:=wr_cel (e:=2) (k:=0) (vs:=lgB y) (G:=fun k=>lgB (ix l k)) (fun _=>rfl) hi (by exact Nat.le_refl 2)
 rw [Nat.add_zero] at this
 show wrC _ _ (lgB y)=_
 rw [this]
 show some _=some _
 congr 1
 refine cel_congr fun k hk=>?_
 unfold updG
 rw [show ix (l.set i y) k=if k=i then y else ix l k by
  unfold ix
  rw [List.getD_eq_getElem?_getD,List.getD_eq_getElem?_getD,List.getElem?_set]
  by_cases e:k=i
  ·subst e;rw [if_pos rfl,if_pos rfl,if_pos (by omega)];rfl
  ·rw [if_neg e,if_neg (Ne.symm e)]]
 split <;> rfl
theorem lg_rd {n i:Nat} (l:List Ins.Lg) (hi:i<n):rdC (celR n fun k=>lgB (ix l k)) (i*2) 2 true=some (.agg [.int .i64 (ix l i).e,.int .i64 (ix l i).k]):=by
 have:=rd_cel (e:=2) (k:=0) (m:=2) (G:=fun k=>lgB (ix l k)) true (fun _=>rfl) hi (by decide) (by decide)
 rw [Nat.add_zero] at this
 rw [this];rfl
end
theorem HEsts.at {p:Nat→Prop} {h:Tr Bk} {v:B} {el:List Est} (hE:HEsts p h v el) {i:Nat} (hi:i<el.length) : ∃ b o c,v = .sl b o el.length c∧∃ C A:B,ld h b (o+i*5) 5 true=some (.agg [.bool (ix el i).m.n,.str (ix el i).m.s,.str (ix el i).m.d,C,A])∧ld h b (o+i*5+3) 1 false=some (.c C)∧HClaims p h C (ix el i).c∧HAgrs p h A (ix el i).a:=by
 obtain ⟨C,A,h1,h2⟩:=hE
 obtain ⟨b,o,c,e,-,hld⟩:=h1.pos (by omega)
 refine ⟨b,o,c,e,C i,A i,hld i hi,?_,h2 i hi⟩
 rw [ld_sub (hld i hi) 3 1 false (by decide) (by decide)]
 unfold rdC
 have:=(h2 i hi).1.kn
 simp [this]
theorem HEsts.len {p:Nat→Prop} {h:Tr Bk} {v:B} {l:List Est} (hl:HEsts p h v l):lenV (.c v)=some (.c (.int .i64 (.ofNat l.length))):=hl.choose_spec.choose_spec.1.len
theorem sub01:binV .sub (.c (.int .i64 (.ofNat 0))) (.c (.int .i64 (.ofNat 1)))=some (.c (.int .i64 (.negSucc 0))):=rfl
theorem lt0m:decide (Int.ofNat 0<Int.negSucc 0)=false:=rfl
theorem owe_end {σ σ' : St} {ev dv:B} {d0 d1 d2:Nat} {w:Rat} {l:List Ins.Lg} {bl:Nat} {dl:List Dbt} (hW:WF σ) {p:Nat→Prop} {T:Nat→B} (hT2 : ∀ j,j<dl.length→HLegs p σ.h (T j) (ix dl j).l) (hT1:HLp p σ.h 4 dv dl.length (fun i=>[.bool (ix dl i).w.n,.str (ix dl i).w.s,.str (ix dl i).w.d,T i])) (hL:LI σ σ' ev dv d0 d1 d2 w l bl)
  {h' : Tr Bk} {n' rb:Nat} (hr:h' rb=some ⟨celR (dl.length+1) (fun j=>if j<dl.length then [.bool (ix dl j).w.n,.str (ix dl j).w.s,.str (ix dl j).w.d,T j] else [.bool (rn w),.str (rs w),.str (rd w),famV l bl]),some (4,113)⟩) (ho : ∀ b,b<σ'.nxt→h' b=σ'.h b) (hrb:σ'.nxt≤rb) (hn:rb<n') (hf:Fr σ ⟨h',n'⟩) :
  (∃ rv d,V.c (.sl rb 0 (dl.length+1) .opn) = .c rv∧HDbts (fun b=>p b∨σ.nxt≤b∧b<n') h' rv (dl ++ [d])∧d.l.length≤4∧d.w=ofQ w)∧Fr σ ⟨h',n'⟩:=by
 have hle:=hL.fr.le
 have hn1:=hL.nx
 refine ⟨⟨_,⟨ofQ w,l⟩,rfl,⟨fun j=>if j<dl.length then T j else famV l bl,?_,fun j hj=>?_⟩,hL.n,rfl⟩,hf⟩
 ·have:(dl ++ [(⟨ofQ w,l⟩:Dbt)]).length=dl.length+1:=by simp
  rw [this]
  have hTk : ∀ j,j<dl.length→(T j).kn=true:=fun j hj=>(hT2 j hj).kn
  refine (cel_hlp (p:=fun b=>p b∨σ.nxt≤b∧b<n') _ hr rfl (.inr ⟨by omega,hn⟩) (fun j=>?_) (by decide) fun j hj=>?_).congr fun j hj=>?_
  ·split <;> rfl
  ·split
   ·next e=>simp only [List.all_cons,List.all_nil,hTk j e,kn_bool,kn_str,Bool.and_self]
   ·simp only [List.all_cons,List.all_nil,famV_kn,kn_bool,kn_str,Bool.and_self]
  ·dsimp only
   split
   ·next e=>rw [ix_snoc_lt _ _ e]
   ·next e =>
    obtain rfl:j=dl.length:=by omega
    rw [ix_snoc_eq];rfl
 ·have hj' : j<dl.length+1:=by simpa using hj
  dsimp only
  by_cases e:j<dl.length
  ·rw [if_pos e,ix_snoc_lt _ _ e]
   refine (HLp.plt hW (hT2 j e)).keep (fun b hb=>?_) fun b hb=>.inl hb.1
   rw [ho b (by omega),hL.fr.old b hb.2]
  ·rw [if_neg e]
   obtain rfl:j=dl.length:=by omega
   rw [ix_snoc_eq]
   by_cases h0:l.length=0
   ·exact .inl ⟨h0,by unfold famV;rw [if_pos h0]⟩
   ·obtain ⟨k1,k2,k3⟩:=hL.lb (by omega)
    rw [famV_pos (by omega)]
    exact cel_hlp (p:=fun b=>p b∨σ.nxt≤b∧b<n') _ (by rw [ho _ k3];exact k1) rfl (.inr ⟨by omega,by omega⟩) (fun _=>rfl) (by decide) fun _ _=>rfl
set_option maxRecDepth 10000 in
theorem owe_x {σ:St} (hW:WF σ) {p p' : Nat→Prop} {ev dv:B} (el:List Est) (dl:List Dbt) (hE:HEsts p' σ.h ev el) (hD:HDbts p σ.h dv dl) (hl:LenD dl) (hel:el.length≤1000) (hcl : ∀ i,i<el.length→(ix el i).c.length≤1000)
  (d0 d1 d2:Nat) (b0:d0≤65535) (b1:d1≤65535) (b2:d2≤65535) :
  CallX EN 49 [.agg [ev,dv],.agg [.int .u16 (.ofNat d0),.int .u16 (.ofNat d1),.int .u16 (.ofNat d2)]] σ fun r σ'=>(∃ rv d,r = .c rv∧HDbts (fun b=>p b∨σ.nxt≤b∧b<σ'.nxt) σ'.h rv (dl ++ [d])∧d.l.length≤4∧d.w=ofQ (amt d2))∧Fr σ σ':=by
 refine call_fn (O_l0_owe _ _) F_l0_owe ?_
 unfold a_l0_owe
 have hek:=hE.kn
 have hdk:=hD.kn
 have hlenE:=hE.len
 simp (maxSteps:=9^9) (disch:=first|assumption|decide|omega) only [go_sem,z3,hek,hdk,hlenE]
 refine RunX.mono (Q:=fun e tm σ'=>e = .exit 0∧∃ l bl,Tr.getV tm 2 = .c (.ptr σ.nxt 0)∧Tr.getV tm 3 = .c (.ptr (σ.nxt+1) 0)∧Tr.getV tm 5 = .c (.ptr (σ.nxt+1+1) 0)∧LI σ σ' ev dv d0 d1 d2 (amt d2) l bl)
  (run_loop (fun q tm σ'=>∃ i k hv l bl,q=el.length - i∧i≤el.length∧k≤i*1000∧Tr.getV tm 2 = .c (.ptr σ.nxt 0)∧Tr.getV tm 3 = .c (.ptr (σ.nxt+1) 0)∧Tr.getV tm 5 = .c (.ptr (σ.nxt+1+1) 0)∧Tr.getV tm 6 = .c (.int .i64 (.ofNat k))∧Tr.getV tm 7 = .c (.int .i64 hv)∧Tr.getV tm 20 = .c (.int .i64 (.ofNat el.length))∧Tr.getV tm 21 = .c (.int .i64 (.ofNat i))
   ∧ LI σ σ' ev dv d0 d1 d2 (amt d2) l bl) el.length ?_ ?_) ?_
 ·refine ⟨0,0,0,[],0,by omega,by omega,by omega,?_⟩
  simp (maxSteps:=9^9) (disch:=first|assumption|decide|omega) only [go_sem,z3,true_and]
  refine ⟨rfl,?_,?_,?_,fun h=>by simp at h,Nat.zero_le _,Nat.le_refl _,?_⟩
  ·simp (disch:=omega) only [hset_ne,hset_get]
  ·simp (disch:=omega) only [hset_ne,hset_get]
  ·rw [hset_get];rfl
  ·exact fr
 ·rintro q tm σ' ⟨i,k,hv,l,bl,rfl,hi,hk,t2,t3,t5,t6,t7,t20,t21,hL⟩
  unfold a_l0_owe_l1
  simp (maxSteps:=9^9) (disch:=first|assumption|decide|omega) only [go_sem,z3,t2,t3,t5,t6,t7,t20,t21,lt_ofNat]
  refine ifV_dec (fun hlt=>?_) (fun hlt=>?_)
  ·obtain ⟨b,o,c,rfl,C,A,hld1,hld3,hC,-⟩:=hE.at hlt
   have hld3:=hL.fr.ld hW hld3
   have hcl1:=hcl i hlt
   generalize hei:(ix el i).c=cl at *
   have hlenC:=hC.len
   have hknC:=hC.kn
   have q1:=hL.q1
   have q2:=hL.q2
   simp (maxSteps:=9^9) (disch:=first|assumption|decide|omega) only [go_sem,z3,t2,t3,t5,t6,t7,t20,t21,ld_blk q1,hek,hdk,hld3,hlenC]
   refine run_loop (fun q tm σ3=>∃ j k hv l bl,q=cl.length - j∧j≤cl.length∧k≤i*1000+j∧Tr.getV tm 2 = .c (.ptr σ.nxt 0)∧Tr.getV tm 3 = .c (.ptr (σ.nxt+1) 0)∧Tr.getV tm 5 = .c (.ptr (σ.nxt+1+1) 0)∧Tr.getV tm 6 = .c (.int .i64 (.ofNat k))∧Tr.getV tm 7 = .c (.int .i64 hv)∧Tr.getV tm 8 = .c (.int .i64 (.ofNat i))∧Tr.getV tm 20 = .c (.int .i64 (.ofNat el.length))∧Tr.getV tm 21 = .c (.int .i64 (.ofNat i))
    ∧ Tr.getV tm 29 = .c C∧Tr.getV tm 30 = .c (.int .i64 (.ofNat cl.length))∧Tr.getV tm 31 = .c (.int .i64 (.ofNat j))∧LI σ σ3 (.sl b o el.length c) dv d0 d1 d2 (amt d2) l bl) cl.length ?_ ?_
   ·refine ⟨0,k,hv,l,bl,by omega,by omega,by omega,?_⟩
    simp (maxSteps:=9^9) (disch:=first|assumption|decide|omega) only [go_sem,z3,t2,t3,t5,t6,t7,t20,t21,true_and]
    exact hL
   ·rintro q tm3 σ3 ⟨j,k3,hv3,l3,bl3,rfl,hj,hk3,t2,t3,t5,t6,t7,t8,t20,t21,t29,t30,t31,hL3⟩
    unfold a_l0_owe_l0
    simp (maxSteps:=9^9) (disch:=first|assumption|decide|omega) only [go_sem,z3,t2,t3,t5,t6,t7,t8,t20,t21,t29,t30,t31,lt_ofNat]
    refine ifV_dec (fun hlt3=>?_) (fun hlt3=>?_)
    ·obtain ⟨b5,o5,c5,e5,-,hld5⟩:=hC.pos (by omega)
     have hld5:=hL3.fr.ld hW (hld5 j hlt3)
     unfold c5B at hld5
     have q1:=hL3.q1
     have q2:=hL3.q2
     have hn3:=hL3.nx
     have hle3:=hL3.fr.le
     rw [e5] at t29
     simp (maxSteps:=9^9) (disch:=first|assumption|decide|omega) only [go_sem,z3,t2,t3,t5,t6,t7,t8,t20,t21,t29,t30,t31,hld5,ld_blk q1,hek,hdk]
     refine CallX.st (Fr σ3) (by have hF:=Fr.refl hL3.fr.wf;exact fr) fun hF3=>?_
     refine (taken_x hF3.wf dl ((hD.fr hW hL3.fr).fr hL3.fr.wf hF3) hl hek (.ofNat i) (.ofNat j)).mono ?_
     rintro _ σ4 ⟨⟨fb,rfl⟩,hf4⟩
     have hF4:=hF3.trans hf4
     have hL4:=hL3.step hF4
     have hle4:=hF4.le
     have hn4:=hL4.nx
     have b4:=hL4.b
     have q2:=hL4.q2
     have hll:=hL4.n
     have hlen4:=famV_len l3 bl3
     have hkn4:=famV_kn l3 bl3
     have htb:σ4.h σ3.nxt=some ⟨[.int .i64 (ix cl j).h,.int .i64 (ix cl j).r,.bool (ix cl j).a.n,.str (ix cl j).a.s,.str (ix cl j).a.d],none⟩:=hf4.get hF3.wf (hset_get _ _ _)
     have hr0:=div_le' d0 (2 ^ min (k3%16) 64) 9223372036854775807 (by omega)
     have hk5:k3≤2000000:=by
      have:=Nat.mul_le_mul_right 1000 (show i≤1000 by omega)
      omega
     have hk16:k3%16<16:=Nat.mod_lt _ (by decide)
     cases fb
     ·simp (maxSteps:=9^9) (disch:=first|assumption|decide|omega) only [go_sem,z3,t2,t3,t5,t6,t7,t8,t20,t21,t30,t31,ld_blk b4,hlen4,hkn4]
      refine ifV_dec (fun hl4=>?_) (fun hl4=>?_)
      ·simp (maxSteps:=9^9) (disch:=first|assumption|decide|omega) only [go_sem,z3,t2,t3,t5,t6,t7,t8,t20,t21,t30,t31]
       exact ⟨cl.length - (j+1),by omega,j+1,k3,hv3,l3,bl3,rfl,by omega,by omega,rfl,rfl,by rw [e5];exact t29,rfl,hL4⟩
      ·simp (maxSteps:=9^9) (disch:=first|assumption|decide|omega) only [go_sem,z3,t2,t3,t5,t6,t7,t8,t20,t21,t30,t31,ld_blk q2]
       have hF4':=hL4.fr
       have hl5:l3.length≤3:=by have h9 : ¬ ((4:Nat):Int)≤(l3.length:Int):=hl4;omega
       have hle34:σ3.nxt≤σ4.nxt:=hF4.le
       refine gsV_dec (fun hw=>?_) (fun hw=>?_)
       ·by_cases hz:l3.length=0
        ·have he:famV l3 bl3 = .nils:=by unfold famV;rw [if_pos hz]
         simp (maxSteps:=9^9) (disch:=first|assumption|decide|omega) only [go_sem,z3,t2,t3,t5,t6,t7,t8,t20,t21,t30,t31,hw,ld_blk b4,b4,he,ld_blk htb]
         refine ⟨cl.length - (j+1),by omega,j+1,k3+1,_,l3 ++ [⟨.ofNat i,.ofNat j⟩],_,rfl,by omega,by omega,rfl,rfl,by rw [e5];exact t29,rfl,LI.push (nx:=σ4.nxt+1) hL4 (by omega) ?_ ?_ ?_ ?_ ?_ ?_⟩
         ·rw [hset_get,hz]
         ·rw [hset_ne _ _ _ _ (by omega),hset_get,hz];rfl
         ·intro b9 h9;simp (disch:=omega) only [hset_ne]
         ·omega
         ·omega
         ·exact fr
        ·have he:=famV_pos (l:=l3) (by omega) bl3
         obtain ⟨k1,k2,k9⟩:=hL4.lb (by omega)
         have hpl:=lg_len l3
         have hpt:=lg_take l3
         have hz2 : ¬ (0=l3.length):=by omega
         simp (maxSteps:=9^9) (disch:=first|assumption|decide|omega) only [go_sem,z3,t2,t3,t5,t6,t7,t8,t20,t21,t30,t31,hw,ld_blk b4,b4,he,ld_blk htb,hz,k1,hpt]
         refine ifV_dec (fun hh=>?_) (fun hh=>?_)
         ·simp (maxSteps:=9^9) (disch:=first|assumption|decide|omega) only [go_sem,z3,t2,t3,t5,t6,t7,t8,t20,t21,t30,t31,hw,ld_blk b4,b4,he,ld_blk htb,hz,k1,hpt]
          refine ⟨cl.length - (j+1),by omega,j+1,k3+1,_,l3 ++ [⟨.ofNat i,.ofNat j⟩],_,rfl,by omega,by omega,rfl,rfl,by rw [e5];exact t29,rfl,LI.push (nx:=σ4.nxt+1) hL4 (by omega) ?_ ?_ ?_ ?_ ?_ ?_⟩
          ·rw [hset_get]
          ·rw [hset_ne _ _ _ _ (by omega),hset_get];rfl
          ·intro b9 h9;simp (disch:=omega) only [hset_ne,hdel_ne]
          ·omega
          ·omega
          ·exact fr
         ·simp (maxSteps:=9^9) (disch:=first|assumption|decide|omega) only [go_sem,z3,t2,t3,t5,t6,t7,t8,t20,t21,t30,t31,hw]
          exact ⟨cl.length - (j+1),by omega,j+1,k3+1,hv3,l3,bl3,rfl,by omega,by omega,rfl,rfl,by rw [e5];exact t29,rfl,hL4⟩
       ·simp (maxSteps:=9^9) (disch:=first|assumption|decide|omega) only [go_sem,z3,t2,t3,t5,t6,t7,t8,t20,t21,t30,t31,hw]
        exact ⟨cl.length - (j+1),by omega,j+1,k3+1,hv3,l3,bl3,rfl,by omega,by omega,rfl,rfl,by rw [e5];exact t29,rfl,hL4⟩
     ·simp (maxSteps:=9^9) (disch:=first|assumption|decide|omega) only [go_sem,z3,t2,t3,t5,t6,t7,t8,t20,t21,t30,t31]
      exact ⟨cl.length - (j+1),by omega,j+1,k3,hv3,l3,bl3,rfl,by omega,by omega,rfl,rfl,by rw [e5];exact t29,rfl,hL4⟩
    ·have:j=cl.length:=by omega
     subst this
     simp (maxSteps:=9^9) (disch:=first|assumption|decide|omega) only [go_sem,z3,t2,t3,t5,t6,t7,t8,t20,t21,t29,t30,t31]
     exact ⟨el.length - (i+1),by omega,i+1,k3,hv3,l3,bl3,rfl,by omega,by omega,rfl,rfl,rfl,hL3⟩
  ·simp (maxSteps:=9^9) (disch:=first|assumption|decide|omega) only [go_sem,z3,true_and]
   exact ⟨l,bl,t2,t3,t5,hL⟩
 ·rintro _ tm σ' ⟨rfl,l,bl,t2,t3,t5,hL⟩
  show RunX EN (.seq _ _) _ _ _
  refine run_mid (fun tm σ3=>∃ l bl,Tr.getV tm 2 = .c (.ptr σ.nxt 0)∧Tr.getV tm 5 = .c (.ptr (σ.nxt+1+1) 0)∧LI σ σ3 ev dv d0 d1 d2 (amt d2) l bl) ?_ ?_
  ·have q2:=hL.q2
   have hF:=hL.fr
   have b5:=hL.b
   have hn:=hL.n
   have hlen4:=famV_len l bl
   have hkn4:=famV_kn l bl
   simp (maxSteps:=9^9) (disch:=first|assumption|decide|omega) only [go_sem,z3,t2,t3,t5,ld_blk q2]
   refine ifV_dec (fun hr=>?_) (fun hr=>?_)
   ·by_cases hz:l.length=0
    ·simp (maxSteps:=9^9) (disch:=first|assumption|decide|omega) only [go_sem,z3,t2,t3,t5,ld_blk b5,hlen4,hkn4,hz,sub01]
     refine run_loop (fun q tm σ3=>q=0∧σ3=σ'∧Tr.getV tm 2 = .c (.ptr σ.nxt 0)∧Tr.getV tm 5 = .c (.ptr (σ.nxt+1+1) 0)∧Tr.getV tm 12 = .c (.int .i64 (.ofNat 0))∧Tr.getV tm 13 = .c (.int .i64 (.negSucc 0))) 0 ?_ ?_
     ·simp (maxSteps:=9^9) (disch:=first|assumption|decide|omega) only [go_sem,z3,true_and]
      exact ⟨t2,t5⟩
     ·rintro q tm σ3 ⟨rfl,rfl,t2,t5,t12,t13⟩
      unfold a_l0_owe_l2
      simp (maxSteps:=9^9) (disch:=first|assumption|decide|omega) only [go_sem,z3,t2,t5,t12,t13,lt0m,true_and]
      exact ⟨l,bl,hL⟩
    ·have h11:1≤l.length:=by omega
     simp (maxSteps:=9^9) (disch:=first|assumption|decide|omega) only [go_sem,z3,t2,t3,t5,ld_blk b5,hlen4,hkn4]
     refine run_loop (fun q tm σ3=>∃ i j l3,q=l.length - i∧i≤l.length∧j<l.length∧l3.length=l.length∧Tr.getV tm 2 = .c (.ptr σ.nxt 0)∧Tr.getV tm 5 = .c (.ptr (σ.nxt+1+1) 0)∧Tr.getV tm 12 = .c (.int .i64 (.ofNat i))∧Tr.getV tm 13 = .c (.int .i64 (.ofNat j))∧LI σ σ3 ev dv d0 d1 d2 (amt d2) l3 bl) l.length ?_ ?_
     ·refine ⟨0,l.length - 1,l,by omega,by omega,by omega,rfl,?_⟩
      simp (maxSteps:=9^9) (disch:=first|assumption|decide|omega) only [go_sem,z3,t2,t5,true_and]
      exact hL
     ·rintro q tm σ3 ⟨i,j,l3,rfl,hi,hj,hl3,t2,t5,t12,t13,hL3⟩
      unfold a_l0_owe_l2
      simp (maxSteps:=9^9) (disch:=first|assumption|decide|omega) only [go_sem,z3,t2,t5,t12,t13,lt_ofNat]
      refine ifV_dec (fun hij=>?_) (fun hij=>?_)
      ·have b5:=hL3.b
       have he:=famV_pos (l:=l3) (by omega) bl
       rw [he] at b5
       obtain ⟨k1,k2,k9⟩:=hL3.lb (by omega)
       have hn3:=hL3.nx
       have hF3:=hL3.fr
       have hle:=hF3.le
       rw [hl3] at b5 k1
       have r1:=lg_rd (n:=l.length) (i:=i) l3 (by omega)
       have r2:=lg_rd (n:=l.length) (i:=j) l3 hj
       have w1:=lg_wr (n:=l.length) (i:=i) l3 hl3 (ix l3 j) (by omega)
       have w2:=lg_wr (n:=l.length) (i:=j) (l3.set i (ix l3 j)) (by simp [hl3]) (ix l3 i) hj
       simp (maxSteps:=9^9) (disch:=first|assumption|decide|omega) only [go_sem,z3,t2,t5,t12,t13,ld_blk b5,ld_blk k1,sto_blk k1,r1,r2,w1,w2]
       refine ⟨l.length - (i+1),by omega,i+1,j - 1,(l3.set i (ix l3 j)).set j (ix l3 i),rfl,by omega,by omega,by simp [hl3],rfl,rfl,hL3.set (by omega) (by simp) ?_ ?_ ?_⟩
       ·rw [hset_get,hl3]
       ·intro b9 h9
        rw [hset_ne _ _ _ _ h9,hset_ne _ _ _ _ h9]
       ·exact fr
      ·simp (maxSteps:=9^9) (disch:=first|assumption|decide|omega) only [go_sem,z3,t2,t5,t12,t13,true_and]
       exact ⟨l3,bl,hL3⟩
   ·simp (maxSteps:=9^9) (disch:=first|assumption|decide|omega) only [go_sem,z3,true_and]
    exact ⟨l,bl,t2,t5,hL⟩
  ·rintro tm σ3 ⟨l,bl,t2,t5,hL⟩
   have hF:=hL.fr
   have hle:=hL.fr.le
   have hn:=hL.nx
   have b5:=hL.b
   have q1:=hL.q1
   have hkn4:=famV_kn l bl
   obtain ⟨T,hT1,hT2⟩:=hD
   have hdl:=hl.1
   have hfin:=fun (h' : Tr Bk) (n' rb:Nat)=>owe_end (h':=h') (n':=n') (rb:=rb) hW hT2 hT1 hL
   by_cases h0:dl.length=0
   ·have hA0:dv = .nils∨∃ b o c,dv = .sl b o 0 c:=by
     rcases hT1 with ⟨-,e⟩|⟨b,o,c,e,-⟩
     ·exact .inl e
     ·exact .inr ⟨b,o,c,by rw [e,h0]⟩
    have hend : ∀ h' : Tr Bk,h' = hset (hset σ3.h σ3.nxt ⟨[.bool (rn (amt d2)),.str (rs (amt d2)),.str (rd (amt d2)),famV l bl],none⟩) (σ3.nxt+1) ⟨[.bool (rn (amt d2)),.str (rs (amt d2)),.str (rd (amt d2)),famV l bl],some (4,113)⟩→(∃ rv d,V.c (.sl (σ3.nxt+1) 0 1 .opn) = .c rv∧HDbts (fun b=>p b∨σ.nxt≤b∧b<σ3.nxt+1+1) h' rv (dl ++ [d])∧d.l.length≤4∧d.w=ofQ (amt d2))∧Fr σ ⟨h',σ3.nxt+1+1⟩:=fun h' e=>by
     subst e
     have:=hfin (hset (hset σ3.h σ3.nxt ⟨[.bool (rn (amt d2)),.str (rs (amt d2)),.str (rd (amt d2)),famV l bl],none⟩) (σ3.nxt+1) ⟨[.bool (rn (amt d2)),.str (rs (amt d2)),.str (rd (amt d2)),famV l bl],some (4,113)⟩) (σ3.nxt+1+1) (σ3.nxt+1) (by rw [hset_get,h0];rfl) (fun b9 h9=>by simp (disch:=omega) only [hset_ne]) (by omega) (by omega) (fr)
     rw [h0] at this
     exact this
    rcases hA0 with rfl|⟨b,o,c,rfl⟩
    ·simp (maxSteps:=9^9) (disch:=first|assumption|decide|omega) only [go_sem,z3,t2,t5,ld_blk q1,ld_blk b5,hek,hkn4]
     exact hend _ rfl
    ·simp (maxSteps:=9^9) (disch:=first|assumption|decide|omega) only [go_sem,z3,t2,t5,ld_blk q1,ld_blk b5,hek,hkn4]
     exact hend _ rfl
   ·obtain ⟨b,o,c,rfl,-,hld⟩:=hT1.pos (by omega)
    have hbl:=hW.ld_lt (hld 0 (by omega))
    obtain ⟨kk,e1,e2,e3,e4,e5⟩:=blk_of_ld (by omega) fun i hi=>hF.ld hW (hld i hi)
    have hct:=cel_take (e:=4) (n:=dl.length) (G:=fun i=>[B.bool (ix dl i).w.n,.str (ix dl i).w.s,.str (ix dl i).w.d,T i]) fun _=>rfl
    have hcn:dl.length*4≤(celR dl.length fun i=>[B.bool (ix dl i).w.n,.str (ix dl i).w.s,.str (ix dl i).w.d,T i]).length:=by rw [e4];exact Nat.le_refl _
    simp (maxSteps:=9^9) (disch:=first|assumption|decide|omega) only [go_sem,z3,t2,t5,ld_blk q1,ld_blk b5,hek,hkn4,e1,e3,e4,e5,e2,hct]
    refine hfin _ _ _ ?_ ?_ (by omega) (by omega) ?_
    ·rw [hset_get,cel_snoc]
     congr 2
     refine cel_congr fun j hj=>?_
     unfold updG
     by_cases e:j=dl.length
     ·rw [if_pos e,if_neg (by omega)]
     ·rw [if_neg e,if_pos (by omega)]
    ·intro b9 h9
     simp (disch:=omega) only [hset_ne,hdel_ne]
    ·exact fr
end Go.Proofs.Xe
