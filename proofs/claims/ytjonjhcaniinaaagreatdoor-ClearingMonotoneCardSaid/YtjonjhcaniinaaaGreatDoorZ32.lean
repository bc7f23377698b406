/- dQ: taken, owe, in the dR words. -/
import Derived.Test.YtjonjhcaniinaaaGreatDoorZ31
set_option linter.unusedSimpArgs false
set_option linter.unusedVariables false
set_option maxHeartbeats 8000000
namespace Go.Proofs.Xe
open Go.RowKit Go.Proofs.Ins
theorem iE.lt {σ:St} (hW:WF σ) {p:Nat→Prop} {v:B} {l:List nR} (hl:iE p σ.h v l):iE (Lt σ.ah) σ.h v l:=by
 obtain ⟨L,h3,h4⟩:=hl
 exact ⟨L,h3.lt hW,fun i hi=>(h4 i hi).lt hW⟩
theorem iE.fr {σ σ' : St} (hW:WF σ) (hf:Fr σ σ') {p:Nat→Prop} {v:B} {l:List nR} (hl:iE p σ.h v l):iE (Lt σ.ah) σ'.h v l:=(hl.lt hW).keep hf.lt fun _ h=>h
def akF (dl:List nR) (i c:Int):Prop:=∀ j,j<dl.length→∀ t,t<(ix dl j).l.length→¬ ((ix (ix dl j).l t).e=i∧(ix (ix dl j).l t).k=c)
def ank (dl:List nR):Prop:=dl.length≤1000∧∀ j,j<dl.length→(ix dl j).l.length≤1000
set_option maxRecDepth 10000 in
theorem agP {σ:St} (hW:WF σ) {p:Nat→Prop} {ev dv:B} (dl:List nR) (hD:iE p σ.h dv dl) (hl:ank dl) (h1:ev.kn=true) (i c:Int) :
  aT EN 50 [.agg [ev,dv],.c (.int .i64 i),.c (.int .i64 c)] σ fun r σ'=>(∃ b,r = .c (.bool b)∧(b=false→akF dl i c))∧Fr σ σ':=by
 refine dh (zI.o _ _) zI.h ?_
 unfold zI
 dsimp only
 obtain ⟨T,hT,hT2⟩:=hD
 have hlen:=hT.len
 have hkn:=hT.kn
 simp (maxSteps:=9^9) (disch:=first|assumption|decide|omega) only [go_sem,z3,hkn,hlen,h1]
 refine aP (fun q tm σ'=>∃ j,q=dl.length - j∧j≤dl.length∧Tr.aj tm 1 = .c (.int .i64 i)∧Tr.aj tm 2 = .c (.int .i64 c)∧Tr.aj tm 12 = .c dv∧Tr.aj tm 13 = .c (.int .i64 (.ofNat dl.length))∧Tr.aj tm 14 = .c (.int .i64 (.ofNat j))∧(∀ j',j' < j→∀ t,t<(ix dl j').l.length→¬ ((ix (ix dl j').l t).e=i∧(ix (ix dl j').l t).k=c))∧Fr σ σ') dl.length ?_ ?_
 ·refine ⟨0,by omega,by omega,?_⟩
  simp (maxSteps:=9^9) (disch:=first|assumption|decide|omega) only [go_sem,z3,true_and]
  exact ⟨fun j' h=>by omega,fr⟩
 ·rintro q tm σ' ⟨j,rfl,hj,t1,t2,t12,t13,t14,hN,hf⟩
  have hle:=hf.le
  have hl0:=hl.1
  simp (maxSteps:=9^9) (disch:=first|assumption|decide|omega) only [go_sem,z3,t1,t2,t12,t13,t14,aV]
  refine aK (fun hlt=>?_) (fun hlt=>?_)
  ·obtain ⟨b,o,cc,rfl,-,hld⟩:=hT.pos (by omega)
   have hld:=hf.ld hW (hld j hlt)
   have hTj:=hT2 j hlt
   have hlj:=hl.2 j hlt
   generalize hag:ix dl j=ag at *
   have adb:=hTj.len
   have aoN:=hTj.kn
   simp (maxSteps:=9^9) (disch:=first|assumption|decide|omega) only [go_sem,z3,t1,t2,t12,t13,t14,hld,aoN,adb]
   refine aP (fun q tm σ3=>∃ t,q=ag.l.length - t∧t≤ag.l.length∧Tr.aj tm 1 = .c (.int .i64 i)∧Tr.aj tm 2 = .c (.int .i64 c)∧Tr.aj tm 12 = .c (.sl b o dl.length cc)∧Tr.aj tm 13 = .c (.int .i64 (.ofNat dl.length))∧Tr.aj tm 14 = .c (.int .i64 (.ofNat j))
    ∧ Tr.aj tm 19 = .c (T j)∧Tr.aj tm 20 = .c (.int .i64 (.ofNat ag.l.length))∧Tr.aj tm 21 = .c (.int .i64 (.ofNat t))∧(∀ t',t' < t→¬ ((ix ag.l t').e=i∧(ix ag.l t').k=c))∧Fr σ σ3) ag.l.length ?_ ?_
   ·refine ⟨0,by omega,by omega,?_⟩
    simp (maxSteps:=9^9) (disch:=first|assumption|decide|omega) only [go_sem,z3,t1,t2,t12,t13,t14,true_and]
    exact ⟨fun t' h=>by omega,fr⟩
   ·rintro q tm3 σ3 ⟨t,rfl,ht,t1,t2,t12,t13,t14,t19,t20,t21,hM,hf3⟩
    have hle3:=hf3.le
    simp (maxSteps:=9^9) (disch:=first|assumption|decide|omega) only [go_sem,z3,t1,t2,t12,t13,t14,t19,t20,t21,aV]
    refine aK (fun hlt3=>?_) (fun hlt3=>?_)
    ·obtain ⟨b3,o3,c3,e3,-,qg⟩:=hTj.pos (by omega)
     have qg:=hf3.ld hW (qg t hlt3)
     unfold JC at qg
     rw [e3] at t19
     simp (maxSteps:=9^9) (disch:=first|assumption|decide|omega) only [go_sem,z3,t1,t2,t12,t13,t14,t19,t20,t21,qg]
     refine WC (fun hq=>?_) (fun hq=>?_)
     ·simp (maxSteps:=9^9) (disch:=first|assumption|decide|omega) only [go_sem,z3,t1,t2,t12,t13,t14,t19,t20,t21,hq]
      refine aK (fun hq2=>?_) (fun hq2=>?_)
      ·simp (maxSteps:=9^9) (disch:=first|assumption|decide|omega) only [go_sem,z3,t1]
       exact ⟨⟨_,rfl,fun h=>by cases h⟩,fr⟩
      ·simp (maxSteps:=9^9) (disch:=first|assumption|decide|omega) only [go_sem,z3,t1,t2,t12,t13,t14,t19,t20,t21]
       exact ⟨ag.l.length - (t+1),by omega,t+1,rfl,by omega,by rw [e3],rfl,fun t' h'=>by
        by_cases e:t' = t
        ·rw [e];exact fun h=>hq2 h.2
        ·exact hM t' (by omega),fr⟩
     ·simp (maxSteps:=9^9) (disch:=first|assumption|decide|omega) only [go_sem,z3,t1,t2,t12,t13,t14,t19,t20,t21,hq]
      exact ⟨ag.l.length - (t+1),by omega,t+1,rfl,by omega,by rw [e3],rfl,fun t' h'=>by
       by_cases e:t' = t
       ·rw [e];exact fun h=>hq h.1
       ·exact hM t' (by omega),fr⟩
    ·have:t=ag.l.length:=by omega
     subst this
     simp (maxSteps:=9^9) (disch:=first|assumption|decide|omega) only [go_sem,z3,t1,t2,t12,t13,t14]
     exact ⟨dl.length - (j+1),by omega,j+1,rfl,by omega,rfl,fun j' h'=>by
      by_cases e:j' = j
      ·rw [e,hag];exact hM
      ·exact hN j' (by omega),hf3⟩
  ·have:j=dl.length:=by omega
   subst this
   simp (maxSteps:=9^9) (disch:=first|assumption|decide|omega) only [go_sem,z3,t1]
   exact ⟨⟨_,rfl,fun _=>hN⟩,hf⟩
structure LI (σ σ' : St) (ev dv:B) (d0 d1 d2:Nat) (w:Rat) (l:List Ins.Lg) (bl:Nat):Prop where
 q1:σ'.h σ.ah=some ⟨[ev,dv],none⟩
 q2:σ'.h (σ.ah+1)=some ⟨[.int .u16 (.ofNat d0),.int .u16 (.ofNat d1),.int .u16 (.ofNat d2)],none⟩
 b:σ'.h (σ.ah+1+1)=some ⟨[.bool (rn w),.str (rs w),.str (rd w),jl l bl],none⟩
 lb:0<l.length→σ'.h bl=some ⟨bC l.length (fun k=>JC (ix l k)),some (2,102)⟩∧σ.ah+1+1+1≤bl∧bl<σ'.ah
 n:l.length≤4
 nx:σ.ah+1+1+1≤σ'.ah
 fr:Fr σ σ'
structure Ol (el:List oU) (dl:List nR) (i j:Nat) (hv:Int) (l:List Ins.Lg):Prop where
 r : ∀ x∈l,∃ e k:Nat,x=⟨.ofNat e,.ofNat k⟩∧e<el.length∧k<(ix el e).c.length∧akF dl (.ofNat e) (.ofNat k)∧holdL el x=hv∧(e<i∨e=i∧k<j)
 nd:l.Nodup
def LGf (el:List oU) (dl:List nR) (l:List Ins.Lg):Prop:=∃ hv,Ol el dl el.length 0 hv l
section
variable {el:List oU} {dl:List nR} {i j:Nat} {hv hv' : Int} {l:List Ins.Lg}
theorem Ol.nil:Ol el dl i j hv []:=⟨fun x hx=>by simp at hx,List.nodup_nil⟩
theorem Ol.next (h:Ol el dl i j hv l):Ol el dl i (j+1) hv l:=⟨fun x hx=>by
 obtain ⟨e,k,h1,h2,h3,h4,h5,h6⟩:=h.r x hx
 exact ⟨e,k,h1,h2,h3,h4,h5,by omega⟩,h.nd⟩
theorem Ol.row (h:Ol el dl i j hv l):Ol el dl (i+1) 0 hv l:=⟨fun x hx=>by
 obtain ⟨e,k,h1,h2,h3,h4,h5,h6⟩:=h.r x hx
 exact ⟨e,k,h1,h2,h3,h4,h5,by omega⟩,h.nd⟩
theorem Ol.push (h:Ol el dl i j hv l) (hi:i<el.length) {cl:List C5} (he:(ix el i).c=cl) (hj:j<cl.length) (hN:akF dl (.ofNat i) (.ofNat j)) (hh:l=[]∨hv=hv') (hx:(ix cl j).h=hv'):Ol el dl i (j+1) hv' (l ++ [⟨.ofNat i,.ofNat j⟩]):=by
 refine ⟨fun x hm=>?_,?_⟩
 ·rcases List.mem_append.mp hm with hm|hm
  ·obtain ⟨e,k,h1,h2,h3,h4,h5,h6⟩:=h.r x hm
   rcases hh with hh|hh
   ·rw [hh] at hm;cases hm
   ·exact ⟨e,k,h1,h2,h3,h4,by rw [h5,hh],by omega⟩
  ·rw [List.mem_singleton] at hm
   subst hm
   refine ⟨i,j,rfl,hi,by rw [he];exact hj,hN,?_,by omega⟩
   show (ix (ix el i).c j).h=_
   rw [he];exact hx
 ·rw [List.nodup_append]
  refine ⟨h.nd,(List.nodup_cons.mpr ⟨List.not_mem_nil,List.nodup_nil⟩),fun a ha b hb e=>?_⟩
  rw [List.mem_singleton] at hb
  subst hb
  obtain ⟨e',k,h1,-,-,-,-,h6⟩:=h.r a ha
  rw [e] at h1
  have h7:=(Ins.Lg.mk.inj h1).1
  have h8:=(Ins.Lg.mk.inj h1).2
  have h7:=Int.ofNat.inj h7
  have h8:=Int.ofNat.inj h8
  omega
theorem Ol.perm {l' : List Ins.Lg} (h:Ol el dl i j hv l) (hp:l'.Perm l):Ol el dl i j hv l':=⟨fun x hx=>h.r x (hp.mem_iff.mp hx),hp.nodup_iff.mpr h.nd⟩
theorem swap_perm {l:List Ins.Lg} {i j:Nat} (hi:i<l.length) (hj:j<l.length):((l.set i (ix l j)).set j (ix l i)).Perm l:=by
 rw [dV hi,dV hj]
 exact List.set_set_perm hi hj
end
section
variable {σ σ' : St} {ev dv:B} {d0 d1 d2:Nat} {w:Rat} {l:List Ins.Lg} {bl:Nat}
theorem LI.step (hL:LI σ σ' ev dv d0 d1 d2 w l bl) {σ3:St} (hf:Fr σ' σ3):LI σ σ3 ev dv d0 d1 d2 w l bl:=by
 have hn:=hL.nx
 have hle:=hf.le
 refine ⟨?_,?_,?_,fun h0=>?_,hL.n,by omega,hL.fr.trans hf⟩
 ·rw [hf.old _ (by omega)];exact hL.q1
 ·rw [hf.old _ (by omega)];exact hL.q2
 ·rw [hf.old _ (by omega)];exact hL.b
 ·obtain ⟨k1,k2,k3⟩:=hL.lb h0
  exact ⟨by rw [hf.old _ k3];exact k1,k2,by omega⟩
theorem LI.push (hL:LI σ σ' ev dv d0 d1 d2 w l bl) {nx n' : Nat} {x:Ins.Lg} {h' : Tr Bk} (hl:l.length≤3) (hb:h' (σ.ah+1+1)=some ⟨[.bool (rn w),.str (rs w),.str (rd w),.sl nx 0 (l.length+1) .opn],none⟩)
  (hx:h' nx=some ⟨bC l.length (fun k=>JC (ix l k)) ++ JC x,some (2,102)⟩) (ho : ∀ b,b<σ.ah+1+1→h' b=σ'.h b) (hn:σ'.ah≤nx) (hn' : nx<n') (hf:Fr σ ⟨h',n'⟩):LI σ ⟨h',n'⟩ ev dv d0 d1 d2 w (l ++ [x]) nx:=by
 have hn1:=hL.nx
 refine ⟨by rw [ho _ (by omega)];exact hL.q1,by rw [ho _ (by omega)];exact hL.q2,?_,fun _=>⟨?_,by omega,hn'⟩,by simp;omega,by show _≤n';omega,hf⟩
 ·rw [ig (by simp),List.length_append];exact hb
 ·rw [List.length_append,List.length_singleton]
  show h' nx=_
  rw [hx,jg]
  congr 2
  refine dB fun k hk=>?_
  unfold iT
  split
  ·next e=>rw [e,fA]
  ·rw [eY _ _ (by omega)]
theorem LI.set (hL:LI σ σ' ev dv d0 d1 d2 w l bl) {h' : Tr Bk} {l' : List Ins.Lg} (h0:0<l.length) (hl:l'.length=l.length) (hb:h' bl=some ⟨bC l.length (fun k=>JC (ix l' k)),some (2,102)⟩) (ho : ∀ b,b≠bl→h' b=σ'.h b) (hf:Fr σ ⟨h',σ'.ah⟩):LI σ ⟨h',σ'.ah⟩ ev dv d0 d1 d2 w l' bl:=by
 have hn1:=hL.nx
 obtain ⟨k1,k2,k3⟩:=hL.lb h0
 refine ⟨by rw [ho _ (by omega)];exact hL.q1,by rw [ho _ (by omega)];exact hL.q2,?_,fun _=>⟨by rw [hl];exact hb,k2,k3⟩,by rw [hl];exact hL.n,hL.nx,hf⟩
 rw [ho _ (by omega),hL.b]
 unfold jl
 rw [hl]
theorem akG (l:List Ins.Lg):l.length*2≤(bC l.length (fun k=>JC (ix l k))).length:=by rw [nP (e:=2) fun _=>rfl];exact Nat.le_refl _
theorem agQ (l:List Ins.Lg):(bC l.length (fun k=>JC (ix l k))).take (l.length*2)=bC l.length (fun k=>JC (ix l k)):=uJ fun _=>rfl
theorem ahS {n i:Nat} (l:List Ins.Lg) (hn:l.length=n) (y:Ins.Lg) (hi:i<n):rU (bC n fun k=>JC (ix l k)) (i*2) [.int .i64 y.e,.int .i64 y.k]=some (bC n fun k=>JC (ix (l.set i y) k)):=by
 have:=xE (e:=2) (k:=0) (vs:=JC y) (G:=fun k=>JC (ix l k)) (fun _=>rfl) hi (by exact Nat.le_refl 2)
 rw [Nat.add_zero] at this
 show rU _ _ (JC y)=_
 rw [this]
 show some _=some _
 congr 1
 refine dB fun k hk=>?_
 unfold iT
 rw [show ix (l.set i y) k=if k=i then y else ix l k by
  unfold ix
  rw [List.getD_eq_getElem?_getD,List.getD_eq_getElem?_getD,List.getElem?_set]
  by_cases e:k=i
  ·subst e;rw [if_pos rfl,if_pos rfl,if_pos (by omega)];rfl
  ·rw [if_neg e,if_neg (Ne.symm e)]]
 split <;> rfl
theorem ahT {n i:Nat} (l:List Ins.Lg) (hi:i<n):wV (bC n fun k=>JC (ix l k)) (i*2) 2 true=some (.agg [.int .i64 (ix l i).e,.int .i64 (ix l i).k]):=by
 have:=Dn (e:=2) (k:=0) (m:=2) (G:=fun k=>JC (ix l k)) true (fun _=>rfl) hi (by decide) (by decide)
 rw [Nat.add_zero] at this
 rw [this];rfl
end
theorem oV.at {p:Nat→Prop} {h:Tr Bk} {v:B} {el:List oU} (hE:oV p h v el) {i:Nat} (hi:i<el.length) : ∃ b o c,v = .sl b o el.length c∧∃ C A:B,ld h b (o+i*5) 5 true=some (.agg [.bool (ix el i).m.n,.str (ix el i).m.s,.str (ix el i).m.d,C,A])∧ld h b (o+i*5+3) 1 false=some (.c C)∧nS p h C (ix el i).c∧gu p h A (ix el i).a:=by
 obtain ⟨C,A,h1,h2⟩:=hE
 obtain ⟨b,o,c,e,-,hld⟩:=h1.pos (by omega)
 refine ⟨b,o,c,e,C i,A i,hld i hi,?_,h2 i hi⟩
 rw [Ij (hld i hi) 3 1 false (by decide) (by decide)]
 unfold wV
 have:=(h2 i hi).1.kn
 simp [this]
theorem oV.len {p:Nat→Prop} {h:Tr Bk} {v:B} {l:List oU} (hl:oV p h v l):lenV (.c v)=some (.c (.int .i64 (.ofNat l.length))):=hl.choose_spec.choose_spec.1.len
theorem iE.el {p:Nat→Prop} {h:Tr Bk} {v:B} {dl:List nR} (hD:iE p h v dl) {i:Nat} (hi:i<dl.length) : ∃ b o c,v = .sl b o dl.length c∧∃ T:B,ld h b (o+i*4) 4 true=some (.agg [.bool (ix dl i).w.n,.str (ix dl i).w.s,.str (ix dl i).w.d,T])∧Bf p h T (ix dl i).l:=by
 obtain ⟨L,h1,h2⟩:=hD
 obtain ⟨b,o,c,e,-,hld⟩:=h1.pos (by omega)
 exact ⟨b,o,c,e,L i,hld i hi,h2 i hi⟩
theorem iE.len {p:Nat→Prop} {h:Tr Bk} {v:B} {dl:List nR} (hD:iE p h v dl):lenV (.c v)=some (.c (.int .i64 (.ofNat dl.length))):=hD.choose_spec.1.len
theorem anl:nX .sub (.c (.int .i64 (.ofNat 0))) (.c (.int .i64 (.ofNat 1)))=some (.c (.int .i64 (.negSucc 0))):=rfl
theorem aoO:decide (Int.ofNat 0<Int.negSucc 0)=false:=rfl
theorem agR {σ σ' : St} {ev dv:B} {d0 d1 d2:Nat} {w:Rat} {l:List Ins.Lg} {bl:Nat} {dl:List nR} (hW:WF σ) {p:Nat→Prop} {T:Nat→B} (hT2 : ∀ j,j<dl.length→Bf p σ.h (T j) (ix dl j).l) (hT1:dw p σ.h 4 dv dl.length (fun i=>[.bool (ix dl i).w.n,.str (ix dl i).w.s,.str (ix dl i).w.d,T i])) (hL:LI σ σ' ev dv d0 d1 d2 w l bl) {el:List oU} (hG:LGf el dl l)
  {h' : Tr Bk} {n' rb:Nat} (hr:h' rb=some ⟨bC (dl.length+1) (fun j=>if j<dl.length then [.bool (ix dl j).w.n,.str (ix dl j).w.s,.str (ix dl j).w.d,T j] else [.bool (rn w),.str (rs w),.str (rd w),jl l bl]),some (4,99)⟩) (ho : ∀ b,b<σ'.ah→h' b=σ'.h b) (hrb:σ'.ah≤rb) (hn:rb<n') (hf:Fr σ ⟨h',n'⟩) :
  (∃ rv d,V.c (.sl rb 0 (dl.length+1) .opn) = .c rv∧iE (fun b=>p b∨σ.ah≤b∧b<n') h' rv (dl ++ [d])∧d.l.length≤4∧d.w=qY w∧LGf el dl d.l)∧Fr σ ⟨h',n'⟩:=by
 have hle:=hL.fr.le
 have hn1:=hL.nx
 refine ⟨⟨_,⟨qY w,l⟩,rfl,⟨fun j=>if j<dl.length then T j else jl l bl,?_,fun j hj=>?_⟩,hL.n,rfl,hG⟩,hf⟩
 ·have:(dl ++ [(⟨qY w,l⟩:nR)]).length=dl.length+1:=by simp
  rw [this]
  have ZN : ∀ j,j<dl.length→(T j).kn=true:=fun j hj=>(hT2 j hj).kn
  refine (iM (p:=fun b=>p b∨σ.ah≤b∧b<n') _ hr rfl (.inr ⟨by omega,hn⟩) (fun j=>?_) (by decide) fun j hj=>?_).congr fun j hj=>?_
  ·split <;> rfl
  ·split
   ·next e=>simp only [List.all_cons,List.all_nil,ZN j e,vI,zC,Bool.and_self]
   ·simp only [List.all_cons,List.all_nil,mG,vI,zC,Bool.and_self]
  ·dsimp only
   split
   ·next e=>rw [eY _ _ e]
   ·next e =>
    obtain rfl:j=dl.length:=by omega
    rw [fA];rfl
 ·have hj' : j<dl.length+1:=by simpa using hj
  dsimp only
  by_cases e:j<dl.length
  ·rw [if_pos e,eY _ _ e]
   refine (dw.plt hW (hT2 j e)).keep (fun b hb=>?_) fun b hb=>.inl hb.1
   rw [ho b (by omega),hL.fr.old b hb.2]
  ·rw [if_neg e]
   obtain rfl:j=dl.length:=by omega
   rw [fA]
   by_cases h0:l.length=0
   ·exact .inl ⟨h0,by unfold jl;rw [if_pos h0]⟩
   ·obtain ⟨k1,k2,k3⟩:=hL.lb (by omega)
    rw [ig (by omega)]
    exact iM (p:=fun b=>p b∨σ.ah≤b∧b<n') _ (by rw [ho _ k3];exact k1) rfl (.inr ⟨by omega,by omega⟩) (fun _=>rfl) (by decide) fun _ _=>rfl
set_option maxRecDepth 10000 in
theorem anm {σ:St} (hW:WF σ) {p p' : Nat→Prop} {ev dv:B} (el:List oU) (dl:List nR) (hE:oV p' σ.h ev el) (hD:iE p σ.h dv dl) (hl:ank dl) (hel:el.length≤1000) (hcl : ∀ i,i<el.length→(ix el i).c.length≤1000)
  (d0 d1 d2:Nat) (b0:d0≤65535) (b1:d1≤65535) (b2:d2≤65535) :
  aT EN 26 [.agg [ev,dv],.agg [.int .u16 (.ofNat d0),.int .u16 (.ofNat d1),.int .u16 (.ofNat d2)]] σ fun r σ'=>(∃ rv d,r = .c rv∧iE (fun b=>p b∨σ.ah≤b∧b<σ'.ah) σ'.h rv (dl ++ [d])∧d.l.length≤4∧d.w=qY (amt d2)∧LGf el dl d.l)∧Fr σ σ':=by
 refine dh (IB.o _ _) IB.h ?_
 unfold IB
 dsimp only
 have hek:=hE.kn
 have hdk:=hD.kn
 have hlenE:=hE.len
 simp (maxSteps:=9^9) (disch:=first|assumption|decide|omega) only [go_sem,z3,hek,hdk,hlenE]
 refine bY.mono (Q:=fun e tm σ'=>e = .exit 0∧∃ l bl,Tr.aj tm 2 = .c (.ptr σ.ah 0)∧Tr.aj tm 3 = .c (.ptr (σ.ah+1) 0)∧Tr.aj tm 5 = .c (.ptr (σ.ah+1+1) 0)∧LGf el dl l∧LI σ σ' ev dv d0 d1 d2 (amt d2) l bl)
  (aP (fun q tm σ'=>∃ i k hv l bl,q=el.length - i∧i≤el.length∧k≤i*1000∧Tr.aj tm 2 = .c (.ptr σ.ah 0)∧Tr.aj tm 3 = .c (.ptr (σ.ah+1) 0)∧Tr.aj tm 5 = .c (.ptr (σ.ah+1+1) 0)∧Tr.aj tm 6 = .c (.int .i64 (.ofNat k))∧Tr.aj tm 7 = .c (.int .i64 hv)∧Tr.aj tm 20 = .c (.int .i64 (.ofNat el.length))∧Tr.aj tm 21 = .c (.int .i64 (.ofNat i))
   ∧ Ol el dl i 0 hv l∧LI σ σ' ev dv d0 d1 d2 (amt d2) l bl) el.length ?_ ?_) ?_
 ·refine ⟨0,0,0,[],0,by omega,by omega,by omega,?_⟩
  simp (maxSteps:=9^9) (disch:=first|assumption|decide|omega) only [go_sem,z3,true_and]
  refine ⟨rfl,Ol.nil,?_,?_,?_,fun h=>by simp at h,Nat.zero_le _,Nat.le_refl _,?_⟩
  ·simp (disch:=omega) only [ak,au]
  ·simp (disch:=omega) only [ak,au]
  ·rw [au];rfl
  ·exact fr
 ·rintro q tm σ' ⟨i,k,hv,l,bl,rfl,hi,hk,t2,t3,t5,t6,t7,t20,t21,hG,hL⟩
  simp (maxSteps:=9^9) (disch:=first|assumption|decide|omega) only [go_sem,z3,t2,t3,t5,t6,t7,t20,t21,aV]
  refine aK (fun hlt=>?_) (fun hlt=>?_)
  ·obtain ⟨b,o,c,rfl,C,A,Zx,qg,hC,-⟩:=hE.at hlt
   have qg:=hL.fr.ld hW qg
   have apy:=hcl i hlt
   generalize hei:(ix el i).c=cl at *
   have Q5:=hC.len
   have apz:=hC.kn
   have q1:=hL.q1
   have q2:=hL.q2
   simp (maxSteps:=9^9) (disch:=first|assumption|decide|omega) only [go_sem,z3,t2,t3,t5,t6,t7,t20,t21,aA q1,hek,hdk,qg,Q5]
   refine aP (fun q tm σ3=>∃ j k hv l bl,q=cl.length - j∧j≤cl.length∧k≤i*1000+j∧Tr.aj tm 2 = .c (.ptr σ.ah 0)∧Tr.aj tm 3 = .c (.ptr (σ.ah+1) 0)∧Tr.aj tm 5 = .c (.ptr (σ.ah+1+1) 0)∧Tr.aj tm 6 = .c (.int .i64 (.ofNat k))∧Tr.aj tm 7 = .c (.int .i64 hv)∧Tr.aj tm 8 = .c (.int .i64 (.ofNat i))∧Tr.aj tm 20 = .c (.int .i64 (.ofNat el.length))∧Tr.aj tm 21 = .c (.int .i64 (.ofNat i))
    ∧ Tr.aj tm 29 = .c C∧Tr.aj tm 30 = .c (.int .i64 (.ofNat cl.length))∧Tr.aj tm 31 = .c (.int .i64 (.ofNat j))∧Ol el dl i j hv l∧LI σ σ3 (.sl b o el.length c) dv d0 d1 d2 (amt d2) l bl) cl.length ?_ ?_
   ·refine ⟨0,k,hv,l,bl,by omega,by omega,by omega,?_⟩
    simp (maxSteps:=9^9) (disch:=first|assumption|decide|omega) only [go_sem,z3,t2,t3,t5,t6,t7,t20,t21,true_and]
    exact ⟨hG,hL⟩
   ·rintro q tm3 σ3 ⟨j,k3,hv3,l3,bl3,rfl,hj,hk3,t2,t3,t5,t6,t7,t8,t20,t21,t29,t30,t31,hG3,hL3⟩
    simp (maxSteps:=9^9) (disch:=first|assumption|decide|omega) only [go_sem,z3,t2,t3,t5,t6,t7,t8,t20,t21,t29,t30,t31,aV]
    refine aK (fun hlt3=>?_) (fun hlt3=>?_)
    ·obtain ⟨b5,o5,c5,e5,-,dM⟩:=hC.pos (by omega)
     have dM:=hL3.fr.ld hW (dM j hlt3)
     unfold c5B at dM
     have q1:=hL3.q1
     have q2:=hL3.q2
     have hn3:=hL3.nx
     have hle3:=hL3.fr.le
     rw [e5] at t29
     simp (maxSteps:=9^9) (disch:=first|assumption|decide|omega) only [go_sem,z3,t2,t3,t5,t6,t7,t8,t20,t21,t29,t30,t31,dM,aA q1,hek,hdk]
     refine aT.st (Fr σ3) (by have hF:=Fr.refl hL3.fr.wf;exact fr) fun hF3=>?_
     refine (agP hF3.wf dl ((hD.fr hW hL3.fr).fr hL3.fr.wf hF3) hl hek (.ofNat i) (.ofNat j)).mono ?_
     rintro _ σ4 ⟨⟨fb,rfl,hNT⟩,hf4⟩
     have yP:=hF3.trans hf4
     have hL4:=hL3.step yP
     have I4:=yP.le
     have hn4:=hL4.nx
     have b4:=hL4.b
     have q2:=hL4.q2
     have hll:=hL4.n
     have Xq:=BD l3 bl3
     have Q7:=mG l3 bl3
     have htb:σ4.h σ3.ah=some ⟨[.int .i64 (ix cl j).h,.int .i64 (ix cl j).r,.bool (ix cl j).a.n,.str (ix cl j).a.s,.str (ix cl j).a.d],none⟩:=hf4.get hF3.wf (au _ _ _)
     have hr0:=rZ d0 (2 ^ min (k3%16) 64) 9223372036854775807 (by omega)
     have hk5:k3≤2000000:=by
      have:=Nat.mul_le_mul_right 1000 (show i≤1000 by omega)
      omega
     have apC:k3%16<16:=Nat.mod_lt _ (by decide)
     cases fb
     ·simp (maxSteps:=9^9) (disch:=first|assumption|decide|omega) only [go_sem,z3,t2,t3,t5,t6,t7,t8,t20,t21,t30,t31,aA b4,Xq,Q7]
      refine aK (fun hl4=>?_) (fun hl4=>?_)
      ·simp (maxSteps:=9^9) (disch:=first|assumption|decide|omega) only [go_sem,z3,t2,t3,t5,t6,t7,t8,t20,t21,t30,t31]
       exact ⟨cl.length - (j+1),by omega,j+1,k3,hv3,l3,bl3,rfl,by omega,by omega,rfl,rfl,by rw [e5];exact t29,rfl,hG3.next,hL4⟩
      ·simp (maxSteps:=9^9) (disch:=first|assumption|decide|omega) only [go_sem,z3,t2,t3,t5,t6,t7,t8,t20,t21,t30,t31,aA q2]
       have apD:=hL4.fr
       have hl5:l3.length≤3:=by have h9 : ¬ ((4:Nat):Int)≤(l3.length:Int):=hl4;omega
       have apk:σ3.ah≤σ4.ah:=yP.le
       refine WC (fun hw=>?_) (fun hw=>?_)
       ·by_cases hz:l3.length=0
        ·have he:jl l3 bl3 = .aW:=by unfold jl;rw [if_pos hz]
         simp (maxSteps:=9^9) (disch:=first|assumption|decide|omega) only [go_sem,z3,t2,t3,t5,t6,t7,t8,t20,t21,t30,t31,hw,aA b4,b4,he,aA htb]
         refine ⟨cl.length - (j+1),by omega,j+1,k3+1,_,l3 ++ [⟨.ofNat i,.ofNat j⟩],_,rfl,by omega,by omega,rfl,rfl,by rw [e5];exact t29,rfl,hG3.push hlt hei hlt3 (hNT rfl) (.inl (List.eq_nil_of_length_eq_zero hz)) rfl,LI.push (nx:=σ4.ah+1) hL4 (by omega) ?_ ?_ ?_ ?_ ?_ ?_⟩
         ·rw [au,hz]
         ·rw [ak _ _ _ _ (by omega),au,hz];rfl
         ·intro b9 h9;simp (disch:=omega) only [ak]
         ·omega
         ·omega
         ·exact fr
        ·have he:=ig (l:=l3) (by omega) bl3
         obtain ⟨k1,k2,k9⟩:=hL4.lb (by omega)
         have hpl:=akG l3
         have hpt:=agQ l3
         have hz2 : ¬ (0=l3.length):=by omega
         simp (maxSteps:=9^9) (disch:=first|assumption|decide|omega) only [go_sem,z3,t2,t3,t5,t6,t7,t8,t20,t21,t30,t31,hw,aA b4,b4,he,aA htb,hz,k1,hpt]
         refine aK (fun hh=>?_) (fun hh=>?_)
         ·simp (maxSteps:=9^9) (disch:=first|assumption|decide|omega) only [go_sem,z3,t2,t3,t5,t6,t7,t8,t20,t21,t30,t31,hw,aA b4,b4,he,aA htb,hz,k1,hpt]
          refine ⟨cl.length - (j+1),by omega,j+1,k3+1,_,l3 ++ [⟨.ofNat i,.ofNat j⟩],_,rfl,by omega,by omega,rfl,rfl,by rw [e5];exact t29,rfl,hG3.push hlt hei hlt3 (hNT rfl) (.inr (by first|exact hh|exact hh.symm)) rfl,LI.push (nx:=σ4.ah+1) hL4 (by omega) ?_ ?_ ?_ ?_ ?_ ?_⟩
          ·rw [au]
          ·rw [ak _ _ _ _ (by omega),au];rfl
          ·intro b9 h9;simp (disch:=omega) only [ak,fH]
          ·omega
          ·omega
          ·exact fr
         ·simp (maxSteps:=9^9) (disch:=first|assumption|decide|omega) only [go_sem,z3,t2,t3,t5,t6,t7,t8,t20,t21,t30,t31,hw]
          exact ⟨cl.length - (j+1),by omega,j+1,k3+1,hv3,l3,bl3,rfl,by omega,by omega,rfl,rfl,by rw [e5];exact t29,rfl,hG3.next,hL4⟩
       ·simp (maxSteps:=9^9) (disch:=first|assumption|decide|omega) only [go_sem,z3,t2,t3,t5,t6,t7,t8,t20,t21,t30,t31,hw]
        exact ⟨cl.length - (j+1),by omega,j+1,k3+1,hv3,l3,bl3,rfl,by omega,by omega,rfl,rfl,by rw [e5];exact t29,rfl,hG3.next,hL4⟩
     ·simp (maxSteps:=9^9) (disch:=first|assumption|decide|omega) only [go_sem,z3,t2,t3,t5,t6,t7,t8,t20,t21,t30,t31]
      exact ⟨cl.length - (j+1),by omega,j+1,k3,hv3,l3,bl3,rfl,by omega,by omega,rfl,rfl,by rw [e5];exact t29,rfl,hG3.next,hL4⟩
    ·have:j=cl.length:=by omega
     subst this
     simp (maxSteps:=9^9) (disch:=first|assumption|decide|omega) only [go_sem,z3,t2,t3,t5,t6,t7,t8,t20,t21,t29,t30,t31]
     exact ⟨el.length - (i+1),by omega,i+1,k3,hv3,l3,bl3,rfl,by omega,by omega,rfl,rfl,rfl,hG3.row,hL3⟩
  ·have hie:i=el.length:=by omega
   simp (maxSteps:=9^9) (disch:=first|assumption|decide|omega) only [go_sem,z3,true_and]
   exact ⟨l,bl,t2,t3,t5,⟨hv,hie ▸ hG⟩,hL⟩
 ·rintro _ tm σ' ⟨rfl,l,bl,t2,t3,t5,⟨hvf,hG⟩,hL⟩
  show bY EN (.seq _ _) _ _ _
  refine Xj (fun tm σ3=>∃ l bl,Tr.aj tm 2 = .c (.ptr σ.ah 0)∧Tr.aj tm 5 = .c (.ptr (σ.ah+1+1) 0)∧LGf el dl l∧LI σ σ3 ev dv d0 d1 d2 (amt d2) l bl) ?_ ?_
  ·have q2:=hL.q2
   have hF:=hL.fr
   have b5:=hL.b
   have hn:=hL.n
   have Xq:=BD l bl
   have Q7:=mG l bl
   simp (maxSteps:=9^9) (disch:=first|assumption|decide|omega) only [go_sem,z3,t2,t3,t5,aA q2]
   refine aK (fun hr=>?_) (fun hr=>?_)
   ·by_cases hz:l.length=0
    ·simp (maxSteps:=9^9) (disch:=first|assumption|decide|omega) only [go_sem,z3,t2,t3,t5,aA b5,Xq,Q7,hz,anl]
     refine aP (fun q tm σ3=>q=0∧σ3=σ'∧Tr.aj tm 2 = .c (.ptr σ.ah 0)∧Tr.aj tm 5 = .c (.ptr (σ.ah+1+1) 0)∧Tr.aj tm 12 = .c (.int .i64 (.ofNat 0))∧Tr.aj tm 13 = .c (.int .i64 (.negSucc 0))) 0 ?_ ?_
     ·simp (maxSteps:=9^9) (disch:=first|assumption|decide|omega) only [go_sem,z3,true_and]
      exact ⟨t2,t5⟩
     ·rintro q tm σ3 ⟨rfl,rfl,t2,t5,t12,t13⟩
      simp (maxSteps:=9^9) (disch:=first|assumption|decide|omega) only [go_sem,z3,t2,t5,t12,t13,aoO,true_and]
      exact ⟨l,bl,⟨hvf,hG⟩,hL⟩
    ·have h11:1≤l.length:=by omega
     simp (maxSteps:=9^9) (disch:=first|assumption|decide|omega) only [go_sem,z3,t2,t3,t5,aA b5,Xq,Q7]
     refine aP (fun q tm σ3=>∃ i j l3,q=l.length - i∧i≤l.length∧j<l.length∧l3.length=l.length∧Tr.aj tm 2 = .c (.ptr σ.ah 0)∧Tr.aj tm 5 = .c (.ptr (σ.ah+1+1) 0)∧Tr.aj tm 12 = .c (.int .i64 (.ofNat i))∧Tr.aj tm 13 = .c (.int .i64 (.ofNat j))∧Ol el dl el.length 0 hvf l3∧LI σ σ3 ev dv d0 d1 d2 (amt d2) l3 bl) l.length ?_ ?_
     ·refine ⟨0,l.length - 1,l,by omega,by omega,by omega,rfl,?_⟩
      simp (maxSteps:=9^9) (disch:=first|assumption|decide|omega) only [go_sem,z3,t2,t5,true_and]
      exact ⟨hG,hL⟩
     ·rintro q tm σ3 ⟨i,j,l3,rfl,hi,hj,hl3,t2,t5,t12,t13,hG3,hL3⟩
      simp (maxSteps:=9^9) (disch:=first|assumption|decide|omega) only [go_sem,z3,t2,t5,t12,t13,aV]
      refine aK (fun hij=>?_) (fun hij=>?_)
      ·have b5:=hL3.b
       have he:=ig (l:=l3) (by omega) bl
       rw [he] at b5
       obtain ⟨k1,k2,k9⟩:=hL3.lb (by omega)
       have hn3:=hL3.nx
       have hF3:=hL3.fr
       have hle:=hF3.le
       rw [hl3] at b5 k1
       have r1:=ahT (n:=l.length) (i:=i) l3 (by omega)
       have r2:=ahT (n:=l.length) (i:=j) l3 hj
       have w1:=ahS (n:=l.length) (i:=i) l3 hl3 (ix l3 j) (by omega)
       have w2:=ahS (n:=l.length) (i:=j) (l3.set i (ix l3 j)) (by simp [hl3]) (ix l3 i) hj
       simp (maxSteps:=9^9) (disch:=first|assumption|decide|omega) only [go_sem,z3,t2,t5,t12,t13,aA b5,aA k1,bP k1,r1,r2,w1,w2]
       refine ⟨l.length - (i+1),by omega,i+1,j - 1,(l3.set i (ix l3 j)).set j (ix l3 i),rfl,by omega,by omega,by simp [hl3],rfl,rfl,hG3.perm (swap_perm (by omega) (by omega)),hL3.set (by omega) (by simp) ?_ ?_ ?_⟩
       ·rw [au,hl3]
       ·intro b9 h9
        rw [ak _ _ _ _ h9,ak _ _ _ _ h9]
       ·exact fr
      ·simp (maxSteps:=9^9) (disch:=first|assumption|decide|omega) only [go_sem,z3,t2,t5,t12,t13,true_and]
       exact ⟨l3,bl,⟨hvf,hG3⟩,hL3⟩
   ·simp (maxSteps:=9^9) (disch:=first|assumption|decide|omega) only [go_sem,z3,true_and]
    exact ⟨l,bl,t2,t5,⟨hvf,hG⟩,hL⟩
  ·rintro tm σ3 ⟨l,bl,t2,t5,hG,hL⟩
   have hF:=hL.fr
   have hle:=hL.fr.le
   have hn:=hL.nx
   have b5:=hL.b
   have q1:=hL.q1
   have Q7:=mG l bl
   obtain ⟨T,hT1,hT2⟩:=hD
   have hdl:=hl.1
   have hfin:=fun (h' : Tr Bk) (n' rb:Nat)=>agR (h':=h') (n':=n') (rb:=rb) hW hT2 hT1 hL hG
   by_cases h0:dl.length=0
   ·have hA0:dv = .aW∨∃ b o c,dv = .sl b o 0 c:=by
     rcases hT1 with ⟨-,e⟩|⟨b,o,c,e,-⟩
     ·exact .inl e
     ·exact .inr ⟨b,o,c,by rw [e,h0]⟩
    have hend : ∀ h' : Tr Bk,h' = hset (hset σ3.h σ3.ah ⟨[.bool (rn (amt d2)),.str (rs (amt d2)),.str (rd (amt d2)),jl l bl],none⟩) (σ3.ah+1) ⟨[.bool (rn (amt d2)),.str (rs (amt d2)),.str (rd (amt d2)),jl l bl],some (4,99)⟩→(∃ rv d,V.c (.sl (σ3.ah+1) 0 1 .opn) = .c rv∧iE (fun b=>p b∨σ.ah≤b∧b<σ3.ah+1+1) h' rv (dl ++ [d])∧d.l.length≤4∧d.w=qY (amt d2)∧LGf el dl d.l)∧Fr σ ⟨h',σ3.ah+1+1⟩:=fun h' e=>by
     subst e
     have:=hfin (hset (hset σ3.h σ3.ah ⟨[.bool (rn (amt d2)),.str (rs (amt d2)),.str (rd (amt d2)),jl l bl],none⟩) (σ3.ah+1) ⟨[.bool (rn (amt d2)),.str (rs (amt d2)),.str (rd (amt d2)),jl l bl],some (4,99)⟩) (σ3.ah+1+1) (σ3.ah+1) (by rw [au,h0];rfl) (fun b9 h9=>by simp (disch:=omega) only [ak]) (by omega) (by omega) (fr)
     rw [h0] at this
     exact this
    rcases hA0 with rfl|⟨b,o,c,rfl⟩
    ·simp (maxSteps:=9^9) (disch:=first|assumption|decide|omega) only [go_sem,z3,t2,t5,aA q1,aA b5,hek,Q7]
     exact hend _ rfl
    ·simp (maxSteps:=9^9) (disch:=first|assumption|decide|omega) only [go_sem,z3,t2,t5,aA q1,aA b5,hek,Q7]
     exact hend _ rfl
   ·obtain ⟨b,o,c,rfl,-,hld⟩:=hT1.pos (by omega)
    have hbl:=hW.iK (hld 0 (by omega))
    obtain ⟨kk,e1,e2,e3,e4,e5⟩:=KQ (by omega) fun i hi=>hF.ld hW (hld i hi)
    have hct:=uJ (e:=4) (n:=dl.length) (G:=fun i=>[B.bool (ix dl i).w.n,.str (ix dl i).w.s,.str (ix dl i).w.d,T i]) fun _=>rfl
    have hcn:dl.length*4≤(bC dl.length fun i=>[B.bool (ix dl i).w.n,.str (ix dl i).w.s,.str (ix dl i).w.d,T i]).length:=by rw [e4];exact Nat.le_refl _
    simp (maxSteps:=9^9) (disch:=first|assumption|decide|omega) only [go_sem,z3,t2,t5,aA q1,aA b5,hek,Q7,e1,e3,e4,e5,e2,hct]
    refine hfin _ _ _ ?_ ?_ (by omega) (by omega) ?_
    ·rw [au,jg]
     congr 2
     refine dB fun j hj=>?_
     unfold iT
     by_cases e:j=dl.length
     ·rw [if_pos e,if_neg (by omega)]
     ·rw [if_neg e,if_pos (by omega)]
    ·intro b9 h9
     simp (disch:=omega) only [ak,fH]
    ·exact fr
end Go.Proofs.Xe
