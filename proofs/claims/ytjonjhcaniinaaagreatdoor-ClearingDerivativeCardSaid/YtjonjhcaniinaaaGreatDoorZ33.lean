/- clearing.build. -/
import Derived.Test.YtjonjhcaniinaaaGreatDoorZ32
set_option linter.all false
set_option maxRecDepth 100000
set_option maxHeartbeats 8000000
namespace Go.Proofs.Xe
open Go.RowKit Go.Proofs.Ins
theorem iR.lt {σ:St} (hW:WF σ) {p:Nat→Prop} {v:B} {l:List oV} (hl:iR p σ.h v l):iR (Lt σ.ah) σ.h v l:=by
 obtain ⟨L,h3,h4⟩:=hl
 exact ⟨L,h3.lt hW,fun i hi=>(h4 i hi).lt hW⟩
theorem iR.fr {σ σ' : St} (hW:WF σ) (hf:Fr σ σ') {p:Nat→Prop} {v:B} {l:List oV} (hl:iR p σ.h v l):iR (Lt σ.ah) σ'.h v l:=(hl.lt hW).keep hf.lt fun _ h=>h
def anK (dl:List oV) (i c:Int):Prop:=∀ j,j<dl.length→∀ t,t<(ix dl j).l.length→¬ ((ix (ix dl j).l t).e=i∧(ix (ix dl j).l t).k=c)
def aqE (dl:List oV):Prop:=dl.length≤1000∧∀ j,j<dl.length→(ix dl j).l.length≤1000
theorem ajn {σ:St} (hW:WF σ) {p:Nat→Prop} {ev dv:B} (dl:List oV) (hD:iR p σ.h dv dl) (hl:aqE dl) (h1:ev.kn=true) (i c:Int) :
  aO EN 50 [.agg [ev,dv],.c (.int .i64 i),.c (.int .i64 c)] σ fun r σ'=>(∃ b,r = .c (.bool b)∧(b=false→anK dl i c))∧Fr σ σ':=by
 refine bF (BF.o _ _) BF.h ?_
 unfold BF
 dsimp only
 obtain ⟨T,hT,hT2⟩:=hD
 have hlen:=hT.len
 have hkn:=hT.kn
 simp (maxSteps:=9^9) (disch:=try exact jz) only [go_sem,z3,hkn,hlen,h1]
 refine aN (fun q tm σ'=>∃ j,q=dl.length - j∧j≤dl.length∧Tr.aj tm 1 = .c (.int .i64 i)∧Tr.aj tm 2 = .c (.int .i64 c)∧Tr.aj tm 12 = .c dv∧Tr.aj tm 13 = .c (.int .i64 (.ofNat dl.length))∧Tr.aj tm 14 = .c (.int .i64 (.ofNat j))∧(∀ j',j' < j→∀ t,t<(ix dl j').l.length→¬ ((ix (ix dl j').l t).e=i∧(ix (ix dl j').l t).k=c))∧Fr σ σ') dl.length ?_ ?_
 ·refine ⟨0,jb,jb,?_⟩
  simp (maxSteps:=9^9) (disch:=try exact jz) only [go_sem,z3,true_and]
  exact ⟨fun j' h=>jb,fr⟩
 ·rintro q tm σ' ⟨j,rfl,hj,t1,t2,t12,t13,t14,hN,hf⟩
  have hle:=hf.le
  have hl0:=hl.1
  simp (maxSteps:=9^9) (disch:=try exact jz) only [go_sem,z3,t1,t2,t12,t13,t14,aP]
  refine aI (fun hlt=>?_) (fun hlt=>?_)
  ·obtain ⟨b,o,cc,rfl,-,hld⟩:=hT.pos jb
   have hld:=hf.ld hW (hld j hlt)
   have hTj:=hT2 j hlt
   have hlj:=hl.2 j hlt
   generalize hag:ix dl j=ag at *
   have afs:=hTj.len
   have aso:=hTj.kn
   simp (maxSteps:=9^9) (disch:=try exact jz) only [go_sem,z3,t1,t2,t12,t13,t14,hld,aso,afs]
   refine aN (fun q tm σ3=>∃ t,q=ag.l.length - t∧t≤ag.l.length∧Tr.aj tm 1 = .c (.int .i64 i)∧Tr.aj tm 2 = .c (.int .i64 c)∧Tr.aj tm 12 = .c (.sl b o dl.length cc)∧Tr.aj tm 13 = .c (.int .i64 (.ofNat dl.length))∧Tr.aj tm 14 = .c (.int .i64 (.ofNat j))
    ∧ Tr.aj tm 19 = .c (T j)∧Tr.aj tm 20 = .c (.int .i64 (.ofNat ag.l.length))∧Tr.aj tm 21 = .c (.int .i64 (.ofNat t))∧(∀ t',t' < t→¬ ((ix ag.l t').e=i∧(ix ag.l t').k=c))∧Fr σ σ3) ag.l.length ?_ ?_
   ·refine ⟨0,jb,jb,?_⟩
    simp (maxSteps:=9^9) (disch:=try exact jz) only [go_sem,z3,t1,t2,t12,t13,t14,true_and]
    exact ⟨fun t' h=>jb,fr⟩
   ·rintro q tm3 σ3 ⟨t,rfl,ht,t1,t2,t12,t13,t14,t19,t20,t21,hM,hf3⟩
    have hle3:=hf3.le
    simp (maxSteps:=9^9) (disch:=try exact jz) only [go_sem,z3,t1,t2,t12,t13,t14,t19,t20,t21,aP]
    refine aI (fun hlt3=>?_) (fun hlt3=>?_)
    ·obtain ⟨b3,o3,c3,e3,-,rW⟩:=hTj.pos jb
     have rW:=hf3.ld hW (rW t hlt3)
     unfold Hw at rW
     rw [e3] at t19
     simp (maxSteps:=9^9) (disch:=try exact jz) only [go_sem,z3,t1,t2,t12,t13,t14,t19,t20,t21,rW]
     refine YS (fun hq=>?_) (fun hq=>?_)
     ·simp (maxSteps:=9^9) (disch:=try exact jz) only [go_sem,z3,t1,t2,t12,t13,t14,t19,t20,t21,hq]
      refine aI (fun hq2=>?_) (fun hq2=>?_)
      ·simp (maxSteps:=9^9) (disch:=try exact jz) only [go_sem,z3,t1]
       exact ⟨⟨_,rfl,fun h=>by cases h⟩,fr⟩
      ·simp (maxSteps:=9^9) (disch:=try exact jz) only [go_sem,z3,t1,t2,t12,t13,t14,t19,t20,t21]
       exact ⟨ag.l.length - (t+1),jb,t+1,rfl,jb,by rw [e3],rfl,fun t' h'=>by
        by_cases e:t' = t
        ·rw [e];exact fun h=>hq2 h.2
        ·exact hM t' jb,fr⟩
     ·simp (maxSteps:=9^9) (disch:=try exact jz) only [go_sem,z3,t1,t2,t12,t13,t14,t19,t20,t21,hq]
      exact ⟨ag.l.length - (t+1),jb,t+1,rfl,jb,by rw [e3],rfl,fun t' h'=>by
       by_cases e:t' = t
       ·rw [e];exact fun h=>hq h.1
       ·exact hM t' jb,fr⟩
    ·have:t=ag.l.length:=jb
     subst this
     simp (maxSteps:=9^9) (disch:=try exact jz) only [go_sem,z3,t1,t2,t12,t13,t14]
     exact ⟨dl.length - (j+1),jb,j+1,rfl,jb,rfl,fun j' h'=>by
      by_cases e:j' = j
      ·rw [e,hag];exact hM
      ·exact hN j' jb,hf3⟩
  ·have:j=dl.length:=jb
   subst this
   simp (maxSteps:=9^9) (disch:=try exact jz) only [go_sem,z3,t1]
   exact ⟨⟨_,rfl,fun _=>hN⟩,hf⟩
structure LI (σ σ' : St) (ev dv:B) (d0 d1 d2:Nat) (w:Rat) (l:List Ins.Lg) (bl:Nat):Prop where
 q1:σ'.h σ.ah=some ⟨[ev,dv],none⟩
 q2:σ'.h (σ.ah+1)=some ⟨[.int .u16 (.ofNat d0),.int .u16 (.ofNat d1),.int .u16 (.ofNat d2)],none⟩
 b:σ'.h (σ.ah+1+1)=some ⟨[.bool (rn w),.str (rs w),.str (rd w),jK l bl],none⟩
 lb:0<l.length→σ'.h bl=some ⟨bH l.length (fun k=>Hw (ix l k)),some (2,102)⟩∧σ.ah+1+1+1≤bl∧bl<σ'.ah
 n:l.length≤4
 nx:σ.ah+1+1+1≤σ'.ah
 fr:Fr σ σ'
structure QS (el:List qN) (dl:List oV) (i j:Nat) (hv:Int) (l:List Ins.Lg):Prop where
 r : ∀ x∈l,∃ e k:Nat,x=⟨.ofNat e,.ofNat k⟩∧e<el.length∧k<(ix el e).c.length∧anK dl (.ofNat e) (.ofNat k)∧holdL el x=hv∧(e<i∨e=i∧k<j)
 nd:l.Nodup
def LGf (el:List qN) (dl:List oV) (l:List Ins.Lg):Prop:=∃ hv,QS el dl el.length 0 hv l
section
variable {el:List qN} {dl:List oV} {i j:Nat} {hv hv' : Int} {l:List Ins.Lg}
theorem QS.nil:QS el dl i j hv []:=⟨fun x hx=>by simp at hx,List.nodup_nil⟩
theorem QS.next (h:QS el dl i j hv l):QS el dl i (j+1) hv l:=⟨fun x hx=>by
 obtain ⟨e,k,h1,h2,h3,h4,h5,h6⟩:=h.r x hx
 exact ⟨e,k,h1,h2,h3,h4,h5,jb⟩,h.nd⟩
theorem QS.row (h:QS el dl i j hv l):QS el dl (i+1) 0 hv l:=⟨fun x hx=>by
 obtain ⟨e,k,h1,h2,h3,h4,h5,h6⟩:=h.r x hx
 exact ⟨e,k,h1,h2,h3,h4,h5,jb⟩,h.nd⟩
theorem QS.push (h:QS el dl i j hv l) (hi:i<el.length) {cl:List C5} (he:(ix el i).c=cl) (hj:j<cl.length) (hN:anK dl (.ofNat i) (.ofNat j)) (hh:l=[]∨hv=hv') (hx:(ix cl j).h=hv'):QS el dl i (j+1) hv' (l ++ [⟨.ofNat i,.ofNat j⟩]):=by
 refine ⟨fun x hm=>?_,?_⟩
 ·rcases List.mem_append.mp hm with hm|hm
  ·obtain ⟨e,k,h1,h2,h3,h4,h5,h6⟩:=h.r x hm
   rcases hh with hh|hh
   ·rw [hh] at hm;cases hm
   ·exact ⟨e,k,h1,h2,h3,h4,by rw [h5,hh],jb⟩
  ·rw [List.mem_singleton] at hm
   subst hm
   refine ⟨i,j,rfl,hi,by rw [he];exact hj,hN,?_,jb⟩
   show (ix (ix el i).c j).h=_
   rw [he];exact hx
 ·rw [List.nodup_append]
  refine ⟨h.nd,(List.nodup_cons.mpr ⟨List.not_mem_nil,List.nodup_nil⟩),fun a ha b hb e=>?_⟩
  rw [List.mem_singleton] at hb
  subst hb
  obtain ⟨e',k,h1,-,-,-,-,h6⟩:=h.r a ha
  rw [e] at h1
  have h7:=(Ins.Lg.mk.inj h1).1
  have h8:=(Ins.Lg.mk.inj h1).2
  have h7:=Int.ofNat.inj h7
  have h8:=Int.ofNat.inj h8
  omega
theorem QS.perm {l' : List Ins.Lg} (h:QS el dl i j hv l) (hp:l'.Perm l):QS el dl i j hv l':=⟨fun x hx=>h.r x (hp.mem_iff.mp hx),hp.nodup_iff.mpr h.nd⟩
theorem swap_perm {l:List Ins.Lg} {i j:Nat} (hi:i<l.length) (hj:j<l.length):((l.set i (ix l j)).set j (ix l i)).Perm l:=by
 rw [dZ hi,dZ hj]
 exact List.set_set_perm hi hj
end
section
variable {σ σ' : St} {ev dv:B} {d0 d1 d2:Nat} {w:Rat} {l:List Ins.Lg} {bl:Nat}
theorem LI.step (hL:LI σ σ' ev dv d0 d1 d2 w l bl) {σ3:St} (hf:Fr σ' σ3):LI σ σ3 ev dv d0 d1 d2 w l bl:=by
 have hn:=hL.nx
 have hle:=hf.le
 refine ⟨?_,?_,?_,fun h0=>?_,hL.n,jb,hL.fr.trans hf⟩
 ·rw [hf.old _ jb];exact hL.q1
 ·rw [hf.old _ jb];exact hL.q2
 ·rw [hf.old _ jb];exact hL.b
 ·obtain ⟨k1,k2,k3⟩:=hL.lb h0
  exact ⟨by rw [hf.old _ k3];exact k1,k2,jb⟩
theorem LI.push (hL:LI σ σ' ev dv d0 d1 d2 w l bl) {nx n' : Nat} {x:Ins.Lg} {h' : Tr Bk} (hl:l.length≤3) (hb:h' (σ.ah+1+1)=some ⟨[.bool (rn w),.str (rs w),.str (rd w),.sl nx 0 (l.length+1) .opn],none⟩)
  (hx:h' nx=some ⟨bH l.length (fun k=>Hw (ix l k)) ++ Hw x,some (2,102)⟩) (ho : ∀ b,b<σ.ah+1+1→h' b=σ'.h b) (hn:σ'.ah≤nx) (hn' : nx<n') (hf:Fr σ ⟨h',n'⟩):LI σ ⟨h',n'⟩ ev dv d0 d1 d2 w (l ++ [x]) nx:=by
 have hn1:=hL.nx
 refine ⟨by rw [ho _ jb];exact hL.q1,by rw [ho _ jb];exact hL.q2,?_,fun _=>⟨?_,jb,hn'⟩,by simp;omega,by show _≤n';omega,hf⟩
 ·rw [iO kc,List.length_append];exact hb
 ·rw [List.length_append,List.length_singleton]
  show h' nx=_
  rw [hx,jF]
  congr 2
  refine dA fun k hk=>?_
  unfold jd
  split
  ·next e=>rw [e,fO]
  ·rw [fM _ _ jb]
theorem LI.set (hL:LI σ σ' ev dv d0 d1 d2 w l bl) {h' : Tr Bk} {l' : List Ins.Lg} (h0:0<l.length) (hl:l'.length=l.length) (hb:h' bl=some ⟨bH l.length (fun k=>Hw (ix l' k)),some (2,102)⟩) (ho : ∀ b,b≠bl→h' b=σ'.h b) (hf:Fr σ ⟨h',σ'.ah⟩):LI σ ⟨h',σ'.ah⟩ ev dv d0 d1 d2 w l' bl:=by
 have hn1:=hL.nx
 obtain ⟨k1,k2,k3⟩:=hL.lb h0
 refine ⟨by rw [ho _ jb];exact hL.q1,by rw [ho _ jb];exact hL.q2,?_,fun _=>⟨by rw [hl];exact hb,k2,k3⟩,by rw [hl];exact hL.n,hL.nx,hf⟩
 rw [ho _ jb,hL.b]
 unfold jK
 rw [hl]
theorem anL (l:List Ins.Lg):l.length*2≤(bH l.length (fun k=>Hw (ix l k))).length:=by rw [pW (e:=2) fun _=>rfl];exact jp
theorem ajo (l:List Ins.Lg):(bH l.length (fun k=>Hw (ix l k))).take (l.length*2)=bH l.length (fun k=>Hw (ix l k)):=wO fun _=>rfl
theorem akH {n i:Nat} (l:List Ins.Lg) (hn:l.length=n) (y:Ins.Lg) (hi:i<n):uT (bH n fun k=>Hw (ix l k)) (i*2) [.int .i64 y.e,.int .i64 y.k]=some (bH n fun k=>Hw (ix (l.set i y) k)):=by
 have:=yU (e:=2) (k:=0) (vs:=Hw y) (G:=fun k=>Hw (ix l k)) (fun _=>rfl) hi (by exact Nat.le_refl 2)
 rw [Nat.add_zero] at this
 show uT _ _ (Hw y)=_
 rw [this]
 show some _=some _
 congr 1
 refine dA fun k hk=>?_
 unfold jd
 rw [show ix (l.set i y) k=if k=i then y else ix l k by
  unfold ix
  rw [List.getD_eq_getElem?_getD,List.getD_eq_getElem?_getD,List.getElem?_set]
  by_cases e:k=i
  ·subst e;rw [if_pos rfl,if_pos rfl,if_pos jb];rfl
  ·rw [if_neg e,if_neg (Ne.symm e)]]
 split <;> rfl
theorem akI {n i:Nat} (l:List Ins.Lg) (hi:i<n):yw (bH n fun k=>Hw (ix l k)) (i*2) 2 true=some (.agg [.int .i64 (ix l i).e,.int .i64 (ix l i).k]):=by
 have:=ES (e:=2) (k:=0) (m:=2) (G:=fun k=>Hw (ix l k)) true (fun _=>rfl) hi jj jj
 rw [Nat.add_zero] at this
 rw [this];rfl
end
theorem qY.at {p:Nat→Prop} {h:Tr Bk} {v:B} {el:List qN} (hE:qY p h v el) {i:Nat} (hi:i<el.length) : ∃ b o c,v = .sl b o el.length c∧∃ C A:B,ld h b (o+i*5) 5 true=some (.agg [.bool (ix el i).m.n,.str (ix el i).m.s,.str (ix el i).m.d,C,A])∧ld h b (o+i*5+3) 1 false=some (.c C)∧pX p h C (ix el i).c∧iF p h A (ix el i).a:=by
 obtain ⟨C,A,h1,h2⟩:=hE
 obtain ⟨b,o,c,e,-,hld⟩:=h1.pos jb
 refine ⟨b,o,c,e,C i,A i,hld i hi,?_,h2 i hi⟩
 rw [Bq (hld i hi) 3 1 false jj jj]
 unfold yw
 have:=(h2 i hi).1.kn
 simp [this]
theorem qY.len {p:Nat→Prop} {h:Tr Bk} {v:B} {l:List qN} (hl:qY p h v l):lenV (.c v)=some (.c (.int .i64 (.ofNat l.length))):=hl.choose_spec.choose_spec.1.len
theorem iR.el {p:Nat→Prop} {h:Tr Bk} {v:B} {dl:List oV} (hD:iR p h v dl) {i:Nat} (hi:i<dl.length) : ∃ b o c,v = .sl b o dl.length c∧∃ T:B,ld h b (o+i*4) 4 true=some (.agg [.bool (ix dl i).w.n,.str (ix dl i).w.s,.str (ix dl i).w.d,T])∧AQ p h T (ix dl i).l:=by
 obtain ⟨L,h1,h2⟩:=hD
 obtain ⟨b,o,c,e,-,hld⟩:=h1.pos jb
 exact ⟨b,o,c,e,L i,hld i hi,h2 i hi⟩
theorem iR.len {p:Nat→Prop} {h:Tr Bk} {v:B} {dl:List oV} (hD:iR p h v dl):lenV (.c v)=some (.c (.int .i64 (.ofNat dl.length))):=hD.choose_spec.1.len
theorem aqF:qp .sub (.c (.int .i64 (.ofNat 0))) (.c (.int .i64 (.ofNat 1)))=some (.c (.int .i64 (.negSucc 0))):=rfl
theorem asq:decide (Int.ofNat 0<Int.negSucc 0)=false:=rfl
theorem ajp {σ σ' : St} {ev dv:B} {d0 d1 d2:Nat} {w:Rat} {l:List Ins.Lg} {bl:Nat} {dl:List oV} (hW:WF σ) {p:Nat→Prop} {T:Nat→B} (hT2 : ∀ j,j<dl.length→AQ p σ.h (T j) (ix dl j).l) (hT1:bW p σ.h 4 dv dl.length (fun i=>[.bool (ix dl i).w.n,.str (ix dl i).w.s,.str (ix dl i).w.d,T i])) (hL:LI σ σ' ev dv d0 d1 d2 w l bl) {el:List qN} (hG:LGf el dl l)
  {h' : Tr Bk} {n' rb:Nat} (hr:h' rb=some ⟨bH (dl.length+1) (fun j=>if j<dl.length then [.bool (ix dl j).w.n,.str (ix dl j).w.s,.str (ix dl j).w.d,T j] else [.bool (rn w),.str (rs w),.str (rd w),jK l bl]),some (4,99)⟩) (ho : ∀ b,b<σ'.ah→h' b=σ'.h b) (hrb:σ'.ah≤rb) (hn:rb<n') (hf:Fr σ ⟨h',n'⟩) :
  (∃ rv d,V.c (.sl rb 0 (dl.length+1) .opn) = .c rv∧iR (fun b=>p b∨σ.ah≤b∧b<n') h' rv (dl ++ [d])∧d.l.length≤4∧d.w=uo w∧LGf el dl d.l)∧Fr σ ⟨h',n'⟩:=by
 have hle:=hL.fr.le
 have hn1:=hL.nx
 refine ⟨⟨_,⟨uo w,l⟩,rfl,⟨fun j=>if j<dl.length then T j else jK l bl,?_,fun j hj=>?_⟩,hL.n,rfl,hG⟩,hf⟩
 ·have:(dl ++ [(⟨uo w,l⟩:oV)]).length=dl.length+1:=by simp
  rw [this]
  have hTk : ∀ j,j<dl.length→(T j).kn=true:=fun j hj=>(hT2 j hj).kn
  refine (fV (p:=fun b=>p b∨σ.ah≤b∧b<n') _ hr rfl (.inr ⟨jb,hn⟩) (fun j=>?_) jj fun j hj=>?_).congr fun j hj=>?_
  ·split <;> rfl
  ·split
   ·next e=>simp only [List.all_cons,List.all_nil,hTk j e,xG,Bo,Bool.and_self]
   ·simp only [List.all_cons,List.all_nil,oC,xG,Bo,Bool.and_self]
  ·dsimp only
   split
   ·next e=>rw [fM _ _ e]
   ·next e =>
    obtain rfl:j=dl.length:=jb
    rw [fO];rfl
 ·have hj' : j<dl.length+1:=by simpa using hj
  dsimp only
  by_cases e:j<dl.length
  ·rw [if_pos e,fM _ _ e]
   refine (bW.plt hW (hT2 j e)).keep (fun b hb=>?_) fun b hb=>.inl hb.1
   rw [ho b jb,hL.fr.old b hb.2]
  ·rw [if_neg e]
   obtain rfl:j=dl.length:=jb
   rw [fO]
   by_cases h0:l.length=0
   ·exact .inl ⟨h0,by unfold jK;rw [if_pos h0]⟩
   ·obtain ⟨k1,k2,k3⟩:=hL.lb jb
    rw [iO jb]
    exact fV (p:=fun b=>p b∨σ.ah≤b∧b<n') _ (by rw [ho _ k3];exact k1) rfl (.inr ⟨jb,jb⟩) (fun _=>rfl) jj fun _ _=>rfl
set_option maxRecDepth 10000 in
theorem aqG {σ:St} (hW:WF σ) {p p' : Nat→Prop} {ev dv:B} (el:List qN) (dl:List oV) (hE:qY p' σ.h ev el) (hD:iR p σ.h dv dl) (hl:aqE dl) (hel:el.length≤1000) (hcl : ∀ i,i<el.length→(ix el i).c.length≤1000)
  (d0 d1 d2:Nat) (b0:d0≤65535) (b1:d1≤65535) (b2:d2≤65535) :
  aO EN 26 [.agg [ev,dv],.agg [.int .u16 (.ofNat d0),.int .u16 (.ofNat d1),.int .u16 (.ofNat d2)]] σ fun r σ'=>(∃ rv d,r = .c rv∧iR (fun b=>p b∨σ.ah≤b∧b<σ'.ah) σ'.h rv (dl ++ [d])∧d.l.length≤4∧d.w=uo (amt d2)∧LGf el dl d.l)∧Fr σ σ':=by
 refine bF (J6.o _ _) J6.h ?_
 unfold J6
 dsimp only
 have hek:=hE.kn
 have hdk:=hD.kn
 have hlenE:=hE.len
 simp (maxSteps:=9^9) (disch:=first|assumption|decide|omega) only [go_sem,z3,hek,hdk,hlenE]
 refine bM.mono (Q:=fun e tm σ'=>e = .exit 0∧∃ l bl,Tr.aj tm 2 = .c (.ptr σ.ah 0)∧Tr.aj tm 3 = .c (.ptr (σ.ah+1) 0)∧Tr.aj tm 5 = .c (.ptr (σ.ah+1+1) 0)∧LGf el dl l∧LI σ σ' ev dv d0 d1 d2 (amt d2) l bl)
  (aN (fun q tm σ'=>∃ i k hv l bl,q=el.length - i∧i≤el.length∧k≤i*1000∧Tr.aj tm 2 = .c (.ptr σ.ah 0)∧Tr.aj tm 3 = .c (.ptr (σ.ah+1) 0)∧Tr.aj tm 5 = .c (.ptr (σ.ah+1+1) 0)∧Tr.aj tm 6 = .c (.int .i64 (.ofNat k))∧Tr.aj tm 7 = .c (.int .i64 hv)∧Tr.aj tm 20 = .c (.int .i64 (.ofNat el.length))∧Tr.aj tm 21 = .c (.int .i64 (.ofNat i))
   ∧ QS el dl i 0 hv l∧LI σ σ' ev dv d0 d1 d2 (amt d2) l bl) el.length ?_ ?_) ?_
 ·refine ⟨0,0,0,[],0,by omega,by omega,by omega,?_⟩
  simp (maxSteps:=9^9) (disch:=first|assumption|decide|omega) only [go_sem,z3,true_and]
  refine ⟨rfl,QS.nil,?_,?_,?_,fun h=>by simp at h,Nat.zero_le _,Nat.le_refl _,?_⟩
  ·simp (disch:=omega) only [ak,aA]
  ·simp (disch:=omega) only [ak,aA]
  ·rw [aA];rfl
  ·exact fr
 ·rintro q tm σ' ⟨i,k,hv,l,bl,rfl,hi,hk,t2,t3,t5,t6,t7,t20,t21,hG,hL⟩
  simp (maxSteps:=9^9) (disch:=first|assumption|decide|omega) only [go_sem,z3,t2,t3,t5,t6,t7,t20,t21,aP]
  refine aI (fun hlt=>?_) (fun hlt=>?_)
  ·obtain ⟨b,o,c,rfl,C,A,abN,rW,hC,-⟩:=hE.at hlt
   have rW:=hL.fr.ld hW rW
   have aty:=hcl i hlt
   generalize hei:(ix el i).c=cl at *
   have UO:=hC.len
   have atz:=hC.kn
   have q1:=hL.q1
   have q2:=hL.q2
   simp (maxSteps:=9^9) (disch:=first|assumption|decide|omega) only [go_sem,z3,t2,t3,t5,t6,t7,t20,t21,au q1,hek,hdk,rW,UO]
   refine aN (fun q tm σ3=>∃ j k hv l bl,q=cl.length - j∧j≤cl.length∧k≤i*1000+j∧Tr.aj tm 2 = .c (.ptr σ.ah 0)∧Tr.aj tm 3 = .c (.ptr (σ.ah+1) 0)∧Tr.aj tm 5 = .c (.ptr (σ.ah+1+1) 0)∧Tr.aj tm 6 = .c (.int .i64 (.ofNat k))∧Tr.aj tm 7 = .c (.int .i64 hv)∧Tr.aj tm 8 = .c (.int .i64 (.ofNat i))∧Tr.aj tm 20 = .c (.int .i64 (.ofNat el.length))∧Tr.aj tm 21 = .c (.int .i64 (.ofNat i))
    ∧ Tr.aj tm 29 = .c C∧Tr.aj tm 30 = .c (.int .i64 (.ofNat cl.length))∧Tr.aj tm 31 = .c (.int .i64 (.ofNat j))∧QS el dl i j hv l∧LI σ σ3 (.sl b o el.length c) dv d0 d1 d2 (amt d2) l bl) cl.length ?_ ?_
   ·refine ⟨0,k,hv,l,bl,by omega,by omega,by omega,?_⟩
    simp (maxSteps:=9^9) (disch:=first|assumption|decide|omega) only [go_sem,z3,t2,t3,t5,t6,t7,t20,t21,true_and]
    exact ⟨hG,hL⟩
   ·rintro q tm3 σ3 ⟨j,k3,hv3,l3,bl3,rfl,hj,hk3,t2,t3,t5,t6,t7,t8,t20,t21,t29,t30,t31,hG3,hL3⟩
    simp (maxSteps:=9^9) (disch:=first|assumption|decide|omega) only [go_sem,z3,t2,t3,t5,t6,t7,t8,t20,t21,t29,t30,t31,aP]
    refine aI (fun hlt3=>?_) (fun hlt3=>?_)
    ·obtain ⟨b5,o5,c5,e5,-,dh⟩:=hC.pos (by omega)
     have dh:=hL3.fr.ld hW (dh j hlt3)
     unfold c5B at dh
     have q1:=hL3.q1
     have q2:=hL3.q2
     have hn3:=hL3.nx
     have hle3:=hL3.fr.le
     rw [e5] at t29
     simp (maxSteps:=9^9) (disch:=first|assumption|decide|omega) only [go_sem,z3,t2,t3,t5,t6,t7,t8,t20,t21,t29,t30,t31,dh,au q1,hek,hdk]
     refine aO.st (Fr σ3) (by have hF:=Fr.refl hL3.fr.wf;exact fr) fun hF3=>?_
     refine (ajn hF3.wf dl ((hD.fr hW hL3.fr).fr hL3.fr.wf hF3) hl hek (.ofNat i) (.ofNat j)).mono ?_
     rintro _ σ4 ⟨⟨fb,rfl,hNT⟩,hf4⟩
     have uG:=hF3.trans hf4
     have hL4:=hL3.step uG
     have Aw:=uG.le
     have hn4:=hL4.nx
     have b4:=hL4.b
     have q2:=hL4.q2
     have hll:=hL4.n
     have ZI:=DR l3 bl3
     have UY:=oC l3 bl3
     have htb:σ4.h σ3.ah=some ⟨[.int .i64 (ix cl j).h,.int .i64 (ix cl j).r,.bool (ix cl j).a.n,.str (ix cl j).a.s,.str (ix cl j).a.d],none⟩:=hf4.get hF3.wf (aA _ _ _)
     have hr0:=uX d0 (2 ^ min (k3%16) 64) 9223372036854775807 (by omega)
     have hk5:k3≤2000000:=by
      have:=Nat.mul_le_mul_right 1000 (show i≤1000 by omega)
      omega
     have atA:k3%16<16:=Nat.mod_lt _ (by decide)
     cases fb
     ·simp (maxSteps:=9^9) (disch:=first|assumption|decide|omega) only [go_sem,z3,t2,t3,t5,t6,t7,t8,t20,t21,t30,t31,au b4,ZI,UY]
      refine aI (fun hl4=>?_) (fun hl4=>?_)
      ·simp (maxSteps:=9^9) (disch:=first|assumption|decide|omega) only [go_sem,z3,t2,t3,t5,t6,t7,t8,t20,t21,t30,t31]
       exact ⟨cl.length - (j+1),by omega,j+1,k3,hv3,l3,bl3,rfl,by omega,by omega,rfl,rfl,by rw [e5];exact t29,rfl,hG3.next,hL4⟩
      ·simp (maxSteps:=9^9) (disch:=first|assumption|decide|omega) only [go_sem,z3,t2,t3,t5,t6,t7,t8,t20,t21,t30,t31,au q2]
       have atB:=hL4.fr
       have hl5:l3.length≤3:=by have h9 : ¬ ((4:Nat):Int)≤(l3.length:Int):=hl4;omega
       have atc:σ3.ah≤σ4.ah:=uG.le
       refine YS (fun hw=>?_) (fun hw=>?_)
       ·by_cases hz:l3.length=0
        ·have he:jK l3 bl3 = .aY:=by unfold jK;rw [if_pos hz]
         simp (maxSteps:=9^9) (disch:=first|assumption|decide|omega) only [go_sem,z3,t2,t3,t5,t6,t7,t8,t20,t21,t30,t31,hw,au b4,b4,he,au htb]
         refine ⟨cl.length - (j+1),by omega,j+1,k3+1,_,l3 ++ [⟨.ofNat i,.ofNat j⟩],_,rfl,by omega,by omega,rfl,rfl,by rw [e5];exact t29,rfl,hG3.push hlt hei hlt3 (hNT rfl) (.inl (List.eq_nil_of_length_eq_zero hz)) rfl,LI.push (nx:=σ4.ah+1) hL4 (by omega) ?_ ?_ ?_ ?_ ?_ ?_⟩
         ·rw [aA,hz]
         ·rw [ak _ _ _ _ (by omega),aA,hz];rfl
         ·intro b9 h9;simp (disch:=omega) only [ak]
         ·omega
         ·omega
         ·exact fr
        ·have he:=iO (l:=l3) (by omega) bl3
         obtain ⟨k1,k2,k9⟩:=hL4.lb (by omega)
         have hpl:=anL l3
         have hpt:=ajo l3
         have hz2 : ¬ (0=l3.length):=by omega
         simp (maxSteps:=9^9) (disch:=first|assumption|decide|omega) only [go_sem,z3,t2,t3,t5,t6,t7,t8,t20,t21,t30,t31,hw,au b4,b4,he,au htb,hz,k1,hpt]
         refine aI (fun hh=>?_) (fun hh=>?_)
         ·simp (maxSteps:=9^9) (disch:=first|assumption|decide|omega) only [go_sem,z3,t2,t3,t5,t6,t7,t8,t20,t21,t30,t31,hw,au b4,b4,he,au htb,hz,k1,hpt]
          refine ⟨cl.length - (j+1),by omega,j+1,k3+1,_,l3 ++ [⟨.ofNat i,.ofNat j⟩],_,rfl,by omega,by omega,rfl,rfl,by rw [e5];exact t29,rfl,hG3.push hlt hei hlt3 (hNT rfl) (.inr (by first|exact hh|exact hh.symm)) rfl,LI.push (nx:=σ4.ah+1) hL4 (by omega) ?_ ?_ ?_ ?_ ?_ ?_⟩
          ·rw [aA]
          ·rw [ak _ _ _ _ (by omega),aA];rfl
          ·intro b9 h9;simp (disch:=omega) only [ak,gI]
          ·omega
          ·omega
          ·exact fr
         ·simp (maxSteps:=9^9) (disch:=first|assumption|decide|omega) only [go_sem,z3,t2,t3,t5,t6,t7,t8,t20,t21,t30,t31,hw]
          exact ⟨cl.length - (j+1),by omega,j+1,k3+1,hv3,l3,bl3,rfl,by omega,by omega,rfl,rfl,by rw [e5];exact t29,rfl,hG3.next,hL4⟩
       ·simp (maxSteps:=9^9) (disch:=first|assumption|decide|omega) only [go_sem,z3,t2,t3,t5,t6,t7,t8,t20,t21,t30,t31,hw]
        exact ⟨cl.length - (j+1),by omega,j+1,k3+1,hv3,l3,bl3,rfl,by omega,by omega,rfl,rfl,by rw [e5];exact t29,rfl,hG3.next,hL4⟩
     ·simp (maxSteps:=9^9) (disch:=first|assumption|decide|omega) only [go_sem,z3,t2,t3,t5,t6,t7,t8,t20,t21,t30,t31]
      exact ⟨cl.length - (j+1),by omega,j+1,k3,hv3,l3,bl3,rfl,by omega,by omega,rfl,rfl,by rw [e5];exact t29,rfl,hG3.next,hL4⟩
    ·have:j=cl.length:=by omega
     subst this
     simp (maxSteps:=9^9) (disch:=first|assumption|decide|omega) only [go_sem,z3,t2,t3,t5,t6,t7,t8,t20,t21,t29,t30,t31]
     exact ⟨el.length - (i+1),by omega,i+1,k3,hv3,l3,bl3,rfl,by omega,by omega,rfl,rfl,rfl,hG3.row,hL3⟩
  ·have hie:i=el.length:=by omega
   simp (maxSteps:=9^9) (disch:=first|assumption|decide|omega) only [go_sem,z3,true_and]
   exact ⟨l,bl,t2,t3,t5,⟨hv,hie ▸ hG⟩,hL⟩
 ·rintro _ tm σ' ⟨rfl,l,bl,t2,t3,t5,⟨hvf,hG⟩,hL⟩
  show bM EN (.seq _ _) _ _ _
  refine Zw (fun tm σ3=>∃ l bl,Tr.aj tm 2 = .c (.ptr σ.ah 0)∧Tr.aj tm 5 = .c (.ptr (σ.ah+1+1) 0)∧LGf el dl l∧LI σ σ3 ev dv d0 d1 d2 (amt d2) l bl) ?_ ?_
  ·have q2:=hL.q2
   have hF:=hL.fr
   have b5:=hL.b
   have hn:=hL.n
   have ZI:=DR l bl
   have UY:=oC l bl
   simp (maxSteps:=9^9) (disch:=first|assumption|decide|omega) only [go_sem,z3,t2,t3,t5,au q2]
   refine aI (fun hr=>?_) (fun hr=>?_)
   ·by_cases hz:l.length=0
    ·simp (maxSteps:=9^9) (disch:=first|assumption|decide|omega) only [go_sem,z3,t2,t3,t5,au b5,ZI,UY,hz,aqF]
     refine aN (fun q tm σ3=>q=0∧σ3=σ'∧Tr.aj tm 2 = .c (.ptr σ.ah 0)∧Tr.aj tm 5 = .c (.ptr (σ.ah+1+1) 0)∧Tr.aj tm 12 = .c (.int .i64 (.ofNat 0))∧Tr.aj tm 13 = .c (.int .i64 (.negSucc 0))) 0 ?_ ?_
     ·simp (maxSteps:=9^9) (disch:=first|assumption|decide|omega) only [go_sem,z3,true_and]
      exact ⟨t2,t5⟩
     ·rintro q tm σ3 ⟨rfl,rfl,t2,t5,t12,t13⟩
      simp (maxSteps:=9^9) (disch:=first|assumption|decide|omega) only [go_sem,z3,t2,t5,t12,t13,asq,true_and]
      exact ⟨l,bl,⟨hvf,hG⟩,hL⟩
    ·have h11:1≤l.length:=by omega
     simp (maxSteps:=9^9) (disch:=first|assumption|decide|omega) only [go_sem,z3,t2,t3,t5,au b5,ZI,UY]
     refine aN (fun q tm σ3=>∃ i j l3,q=l.length - i∧i≤l.length∧j<l.length∧l3.length=l.length∧Tr.aj tm 2 = .c (.ptr σ.ah 0)∧Tr.aj tm 5 = .c (.ptr (σ.ah+1+1) 0)∧Tr.aj tm 12 = .c (.int .i64 (.ofNat i))∧Tr.aj tm 13 = .c (.int .i64 (.ofNat j))∧QS el dl el.length 0 hvf l3∧LI σ σ3 ev dv d0 d1 d2 (amt d2) l3 bl) l.length ?_ ?_
     ·refine ⟨0,l.length - 1,l,by omega,by omega,by omega,rfl,?_⟩
      simp (maxSteps:=9^9) (disch:=first|assumption|decide|omega) only [go_sem,z3,t2,t5,true_and]
      exact ⟨hG,hL⟩
     ·rintro q tm σ3 ⟨i,j,l3,rfl,hi,hj,hl3,t2,t5,t12,t13,hG3,hL3⟩
      simp (maxSteps:=9^9) (disch:=first|assumption|decide|omega) only [go_sem,z3,t2,t5,t12,t13,aP]
      refine aI (fun hij=>?_) (fun hij=>?_)
      ·have b5:=hL3.b
       have he:=iO (l:=l3) (by omega) bl
       rw [he] at b5
       obtain ⟨k1,k2,k9⟩:=hL3.lb (by omega)
       have hn3:=hL3.nx
       have hF3:=hL3.fr
       have hle:=hF3.le
       rw [hl3] at b5 k1
       have r1:=akI (n:=l.length) (i:=i) l3 (by omega)
       have r2:=akI (n:=l.length) (i:=j) l3 hj
       have w1:=akH (n:=l.length) (i:=i) l3 hl3 (ix l3 j) (by omega)
       have w2:=akH (n:=l.length) (i:=j) (l3.set i (ix l3 j)) (by simp [hl3]) (ix l3 i) hj
       simp (maxSteps:=9^9) (disch:=first|assumption|decide|omega) only [go_sem,z3,t2,t5,t12,t13,au b5,au k1,aX k1,r1,r2,w1,w2]
       refine ⟨l.length - (i+1),by omega,i+1,j - 1,(l3.set i (ix l3 j)).set j (ix l3 i),rfl,by omega,by omega,by simp [hl3],rfl,rfl,hG3.perm (swap_perm (by omega) (by omega)),hL3.set (by omega) (by simp) ?_ ?_ ?_⟩
       ·rw [aA,hl3]
       ·intro b9 h9
        rw [ak _ _ _ _ h9,ak _ _ _ _ h9]
       ·exact fr
      ·simp (maxSteps:=9^9) (disch:=first|assumption|decide|omega) only [go_sem,z3,t2,t5,t12,t13,true_and]
       exact ⟨l3,bl,⟨hvf,hG3⟩,hL3⟩
   ·simp (maxSteps:=9^9) (disch:=first|assumption|decide|omega) only [go_sem,z3,true_and]
    exact ⟨l,bl,t2,t5,⟨hvf,hG⟩,hL⟩
  ·rintro tm σ3 ⟨l,bl,t2,t5,hG,hL⟩
   have hF:=hL.fr
   have hle:=hL.fr.le
   have hn:=hL.nx
   have b5:=hL.b
   have q1:=hL.q1
   have UY:=oC l bl
   obtain ⟨T,hT1,hT2⟩:=hD
   have hdl:=hl.1
   have hfin:=fun (h' : Tr Bk) (n' rb:Nat)=>ajp (h':=h') (n':=n') (rb:=rb) hW hT2 hT1 hL hG
   by_cases h0:dl.length=0
   ·have hA0:dv = .aY∨∃ b o c,dv = .sl b o 0 c:=by
     rcases hT1 with ⟨-,e⟩|⟨b,o,c,e,-⟩
     ·exact .inl e
     ·exact .inr ⟨b,o,c,by rw [e,h0]⟩
    have hend : ∀ h' : Tr Bk,h' = hset (hset σ3.h σ3.ah ⟨[.bool (rn (amt d2)),.str (rs (amt d2)),.str (rd (amt d2)),jK l bl],none⟩) (σ3.ah+1) ⟨[.bool (rn (amt d2)),.str (rs (amt d2)),.str (rd (amt d2)),jK l bl],some (4,99)⟩→(∃ rv d,V.c (.sl (σ3.ah+1) 0 1 .opn) = .c rv∧iR (fun b=>p b∨σ.ah≤b∧b<σ3.ah+1+1) h' rv (dl ++ [d])∧d.l.length≤4∧d.w=uo (amt d2)∧LGf el dl d.l)∧Fr σ ⟨h',σ3.ah+1+1⟩:=fun h' e=>by
     subst e
     have:=hfin (hset (hset σ3.h σ3.ah ⟨[.bool (rn (amt d2)),.str (rs (amt d2)),.str (rd (amt d2)),jK l bl],none⟩) (σ3.ah+1) ⟨[.bool (rn (amt d2)),.str (rs (amt d2)),.str (rd (amt d2)),jK l bl],some (4,99)⟩) (σ3.ah+1+1) (σ3.ah+1) (by rw [aA,h0];rfl) (fun b9 h9=>by simp (disch:=omega) only [ak]) (by omega) (by omega) (fr)
     rw [h0] at this
     exact this
    rcases hA0 with rfl|⟨b,o,c,rfl⟩
    ·simp (maxSteps:=9^9) (disch:=first|assumption|decide|omega) only [go_sem,z3,t2,t5,au q1,au b5,hek,UY]
     exact hend _ rfl
    ·simp (maxSteps:=9^9) (disch:=first|assumption|decide|omega) only [go_sem,z3,t2,t5,au q1,au b5,hek,UY]
     exact hend _ rfl
   ·obtain ⟨b,o,c,rfl,-,hld⟩:=hT1.pos (by omega)
    have hbl:=hW.eU (hld 0 (by omega))
    obtain ⟨kk,e1,e2,e3,e4,e5⟩:=NW (by omega) fun i hi=>hF.ld hW (hld i hi)
    have hct:=wO (e:=4) (n:=dl.length) (G:=fun i=>[B.bool (ix dl i).w.n,.str (ix dl i).w.s,.str (ix dl i).w.d,T i]) fun _=>rfl
    have hcn:dl.length*4≤(bH dl.length fun i=>[B.bool (ix dl i).w.n,.str (ix dl i).w.s,.str (ix dl i).w.d,T i]).length:=by rw [e4];exact Nat.le_refl _
    simp (maxSteps:=9^9) (disch:=first|assumption|decide|omega) only [go_sem,z3,t2,t5,au q1,au b5,hek,UY,e1,e3,e4,e5,e2,hct]
    refine hfin _ _ _ ?_ ?_ (by omega) (by omega) ?_
    ·rw [aA,jF]
     congr 2
     refine dA fun j hj=>?_
     unfold jd
     by_cases e:j=dl.length
     ·rw [if_pos e,if_neg (by omega)]
     ·rw [if_neg e,if_pos (by omega)]
    ·intro b9 h9
     simp (disch:=omega) only [ak,gI]
    ·exact fr
structure afT (A:Nat) (g:gK):Prop where
 n:g.e.length≤1000
 d:g.d.length≤1000
 e : ∀ i,i<g.e.length→afM A (ix g.e i)
 l : ∀ d,d<g.d.length→(ix g.d d).l.length≤1000
 lg : ∀ d,d<g.d.length→∀ k,k<(ix g.d d).l.length→∃ e c:Nat,ix (ix g.d d).l k=⟨.ofNat e,.ofNat c⟩∧e<g.e.length∧c<(ix g.e e).c.length
def UZ (ev dv:B) (n:Nat) (bb:Nat→Nat):List B:=[ev,dv,aT n (bb 2),aT n (bb 3)]
set_option maxRecDepth 10000 in
theorem ZJ {σ:St} (hW:WF σ) {p:Nat→Prop} {ev dv:B} (g:gK) (hg:qB p σ.h ev dv g) {A:Nat} (hA:Ae A) (hO:afT A g) :
  aO EN 28 [.agg [ev,dv]] σ fun r σ'=>(∃ sb,r = .c (.ptr sb 0)∧GU (Lt σ'.ah) σ'.h sb g)∧Fr σ σ':=by
 refine bF (oZ.o _ _) oZ.h ?_
 unfold oZ
 dsimp only
 have hek:=hg.e.kn
 have hdk:=hg.d.kn
 have hlenE:=hg.e.len
 have hlenD:=hg.d.len
 have hne:=hO.n
 have hnd:=hO.d
 have hFr:=Fr.refl hW
 simp (maxSteps:=9^9) (disch:=first|assumption|decide|omega) only [go_sem,z3,hek,hdk,hlenE]
 refine bM.mono (Q:=fun ex tm σ'=>ex = .exit 0∧∃ p bb R P bs,Tr.aj tm 1 = .c (.ptr σ.ah 0)∧Tr.aj tm 3 = .c (.ptr (σ.ah+1) 0)∧σ'.h σ.ah=some ⟨[ev,dv],none⟩∧σ'.h (σ.ah+1)=some ⟨UZ ev dv g.e.length bb,none⟩
   ∧ XU g.e p σ'.h (xQ g.e.length) bb R P bs g.e.length [] (σ.ah+1+1) σ'.ah∧Fr σ σ'∧σ.ah+1+1≤σ'.ah)
  (aN (fun q tm σ'=>∃ i p bb R P bs,q=g.e.length - i∧i≤g.e.length∧Tr.aj tm 1 = .c (.ptr σ.ah 0)∧Tr.aj tm 3 = .c (.ptr (σ.ah+1) 0)∧Tr.aj tm 14 = .c ev∧Tr.aj tm 15 = .c (.int .i64 (.ofNat g.e.length))∧Tr.aj tm 16 = .c (.int .i64 (.ofNat i))∧σ'.h σ.ah=some ⟨[ev,dv],none⟩∧σ'.h (σ.ah+1)=some ⟨UZ ev dv i bb,none⟩
   ∧ XU g.e p σ'.h (xQ i) bb R P bs i [] (σ.ah+1+1) σ'.ah∧Fr σ σ'∧σ.ah+1+1≤σ'.ah) g.e.length ?_ ?_) ?_
 ·refine ⟨0,fun _=>False,fun _=>σ.ah+1+1,fun _=>.aY,fun _=>.aY,fun _=>0,by omega,by omega,?_⟩
  simp (maxSteps:=9^9) (disch:=first|assumption|decide|omega) only [go_sem,z3,true_and]
  refine ⟨rfl,⟨Fam.nil (fun k=>?_) (afS _ _ _ _),jL.nil _ _ _ _ _ _,fun j hj=>by omega,fun j k hj=>by omega⟩,fr,by omega⟩
  unfold xQ;split <;> rfl
 ·rintro q tm σ' ⟨i,p,bb,R,P,bs,rfl,hi,t1,t3,t14,t15,t16,q0,q1,hS,hf,hnx⟩
  have hle:=hf.le
  simp (maxSteps:=9^9) (disch:=first|assumption|decide|omega) only [go_sem,z3,t1,t3,t14,t15,t16,aP]
  refine aI (fun hlt=>?_) (fun hlt=>?_)
  ·obtain ⟨b5,o5,c5,rfl,C1,A1,dh,-,hC,hA1⟩:=hg.e.at hlt
   have dh:=hf.ld hW dh
   have hCk:=bW.kn hC
   have hAk:=hA1.kn
   have hlo2:=hS.f.l1 2
   have hlo3:=hS.f.l1 3
   have hhi2:i=0∨bb 2<σ'.ah:=hS.f.l2 2
   have hhi3:i=0∨bb 3<σ'.ah:=hS.f.l2 3
   have aqH:i=0∨i=0∨bb 2≠bb 3:=hS.f.ne 2 3 (by decide)
   unfold UZ at q1
   refine KW (run_seq (Aa (KU (fun tm σ5=>∃ p bb R P,Tr.aj tm 1 = .c (.ptr σ.ah 0)∧Tr.aj tm 3 = .c (.ptr (σ.ah+1) 0)∧Tr.aj tm 5 = .c (.ptr σ'.ah 0)∧Tr.aj tm 14 = .c (.sl b5 o5 g.e.length c5)∧Tr.aj tm 15 = .c (.int .i64 (.ofNat g.e.length))∧Tr.aj tm 16 = .c (.int .i64 (.ofNat i))
     ∧ σ5.h σ.ah=some ⟨[.sl b5 o5 g.e.length c5,dv],none⟩∧σ5.h (σ.ah+1)=some ⟨[.sl b5 o5 g.e.length c5,dv,aT (i+1) (bb 2),aT i (bb 3)],none⟩∧σ5.h σ'.ah=some ⟨[.bool (ix g.e i).m.n,.str (ix g.e i).m.s,.str (ix g.e i).m.d,C1,A1],none⟩∧XU g.e p σ5.h (aK (xQ i) 2 (xQ i 2+1)) bb R P bs i [] (σ.ah+1+1) σ5.ah∧Fr σ σ5∧σ'.ah<σ5.ah) ?_ ?_)))
   ·have qW:=Fr.refl hf.wf
    simp (maxSteps:=9^9) (disch:=first|assumption|decide|omega) only [go_sem,z3,t1,t3,t14,t15,t16,dh,hCk,hAk,au q1]
    refine aO.st (Fr σ') (fr) fun jX=>?_
    have hf5:=hf.trans jX
    refine (aqB jX.wf (bW.fr hW hf5 hC) (hA1.fr hW hf5) rfl rfl rfl hA (hO.e i hlt)).mono ?_
    rintro _ σ6 ⟨⟨rv,pv,rfl,hL⟩,lT⟩
    have rX:=jX.trans lT
    have abW:=hf.trans rX
    have zI:σ'.ah+1≤σ6.ah:=lT.le
    have q06:=rX.get hf.wf q0
    have q16:=rX.get hf.wf q1
    have q56:σ6.h σ'.ah=some ⟨[.bool (ix g.e i).m.n,.str (ix g.e i).m.s,.str (ix g.e i).m.d,C1,A1],none⟩:=lT.get jX.wf (aA _ _ _)
    have hrk:=hL.rk.kn
    have hpk:=hL.pkn
    have hS6:=hS.keep (ab1 _ _ _) (fun b _ hb=>rX.old b hb) (Nat.le_refl _)
    have hg6:uz i σ6.h (bb 2)=gF i (bG g.e R P bs 2) 6 114:=hS6.f.g 2
    have hLG:LG (bG g.e R P bs 2) 6:=afS _ _ _ _ 2
    unfold jD
    simp (maxSteps:=9^9) (disch:=first|assumption|decide|omega) only [go_sem,z3,t1,t3,t14,t15,t16,hrk,hpk,au q16,q16,hg6]
    refine ⟨fun b=>p b∨σ'.ah≤b∧b<σ6.ah,aK bb 2 (σ6.ah+1),aK R i rv,aK P i pv,?_⟩
    and_intros <;> try (first|rfl|omega|exact q06|exact q56|exact fr)
    refine hS.push 2 (hi1:=σ6.ah) (h1:=σ6.h) (fun x h=>.inl h) (fun x h=>h) (ab1 _ _ _) (fun k j hj p h hq=>anH (Nat.lt_of_lt_of_le hj (ZG i k)) rv pv k p h hq) (fun k j hj=>anI (Nat.lt_of_lt_of_le hj (ZG i k)) rv pv k) (afS _ _ _ _) ?_ (fun b _ hb=>rX.old b hb) (by omega) (by omega) (by omega) hnx
     (x:=jD (ix g.e i).c.length rv pv (oD (ix g.e i) (ix g.e i).c.length)) ?_ ?_ fun c h1 h2 h3=>?_
    ·show tN _ _ (aK R i rv i) (aK P i pv i) _
     rw [aH,aH]
     exact hL.keep (fun _ _=>rfl) fun b hb=>.inr ⟨Nat.le_trans (Nat.le_succ _) hb.1,hb.2⟩
    ·rw [ak _ _ _ _ (by omega),aA];rfl
    ·show _=jD _ (aK R i rv i) (aK P i pv i) _
     rw [aH,aH];rfl
    ·rw [ak _ _ _ _ (by omega),ak _ _ _ _ (by omega),gJ i _ _ _ h3,ak _ _ _ _ (by omega)]
   ·rintro tm5 σ5 ⟨p5,jZ,R5,P5,t1,t3,t5,t14,t15,t16,q0,q1,q5,hS5,hf5,hn5⟩
    have Ar:=hf5.le
    have hlo2:=hS5.f.l1 2
    have hlo3:=hS5.f.l1 3
    have hhi2:i+1=0∨jZ 2<σ5.ah:=hS5.f.l2 2
    have hhi3:i=0∨jZ 3<σ5.ah:=hS5.f.l2 3
    have aqH:i+1=0∨i=0∨jZ 2≠jZ 3:=hS5.f.ne 2 3 (by decide)
    have hg5:uz i σ5.h (jZ 3)=gF i (bG g.e R5 P5 bs 3) 1 32:=hS5.f.g 3
    have hLG:LG (bG g.e R5 P5 bs 3) 1:=afS _ _ _ _ 3
    have hnc:=(hO.e i hlt).nc
    have hlC:=bW.len hC
    have XW:=Fr.refl hf5.wf
    simp (maxSteps:=9^9) (disch:=first|assumption|decide|omega) only [go_sem,z3,t1,t3,t5,t14,t15,t16,hlC,hCk,hAk,au q1,au q5,q1,hg5]
    refine ⟨g.e.length - (i+1),by omega,i+1,p5,aK jZ 3 (σ5.ah+1+1),R5,P5,aK bs i σ5.ah,rfl,by omega,rfl,q0,rfl,?_,fr,by omega⟩
    rw [← ab2]
    refine hS5.pushRow 3 (hi1:=σ5.ah+1) (nb:=σ5.ah) (h1:=hset σ5.h σ5.ah ⟨bH (kE g.e i) (La [] i),none⟩) (ab1 _ _ _) (fun k j hj p h hq=>hq) (fun k j hj=>anJ (m:=i) k fun e=>by subst e;exact hj) (afS _ _ _ _) trivial (fun b _ hb=>ak _ _ _ _ (by omega)) (by omega) (by omega) (by omega) (by omega) (x:=[uH (kE g.e) (aK bs i σ5.ah) i]) ?_ rfl (fun c h1 h2 h3=>?_) (by omega) (by omega) ?_
    ·rw [ak _ _ _ _ (by omega),aA]
     unfold uH
     rw [aH];rfl
    ·rw [ak _ _ _ _ (by omega),ak _ _ _ _ (by omega),gJ i _ _ _ h3,ak _ _ _ _ (by omega)];rfl
    ·rw [ak _ _ _ _ (by omega),ak _ _ _ _ (by omega),gJ _ _ _ _ (by omega),ak _ _ _ _ (by omega),aA];rfl
  ·have:i=g.e.length:=by omega
   subst this
   simp (maxSteps:=9^9) (disch:=first|assumption|decide|omega) only [go_sem,z3,true_and]
   exact ⟨p,bb,R,P,bs,t1,t3,q0,q1,hS,hf,hnx⟩
 rintro _ tm σ2 ⟨rfl,p2,bb,R,P,bs,t1,t3,q0,q1,hS,hf,hnx⟩
 have hle:=hf.le
 have atC : ∀ k,bb k<σ2.ah∨xQ g.e.length k=0:=fun k=>(hS.f.l2 k).symm
 simp (maxSteps:=9^9) (disch:=first|assumption|decide|omega) only [go_sem,z3,t1,t3,au q0,hdk,hlenD]
 refine bM.mono (Q:=fun ex tm σ'=>ex = .exit 2∧Tr.aj tm 3 = .c (.ptr (σ.ah+1) 0)∧σ'.h (σ.ah+1)=some ⟨UZ ev dv g.e.length bb,none⟩∧XU g.e p2 σ'.h (xQ g.e.length) bb R P bs g.e.length (yg g.d g.d.length) (σ.ah+1+1) σ'.ah∧Fr σ σ'∧σ.ah+1+1≤σ'.ah)
  (aN (fun q tm σ'=>∃ j,q=g.d.length - j∧j≤g.d.length∧Tr.aj tm 3 = .c (.ptr (σ.ah+1) 0)∧Tr.aj tm 46 = .c dv∧Tr.aj tm 47 = .c (.int .i64 (.ofNat g.d.length))∧Tr.aj tm 48 = .c (.int .i64 (.ofNat j))
   ∧ σ'.h (σ.ah+1)=some ⟨UZ ev dv g.e.length bb,none⟩∧XU g.e p2 σ'.h (xQ g.e.length) bb R P bs g.e.length (yg g.d j) (σ.ah+1+1) σ'.ah∧Fr σ σ'∧σ.ah+1+1≤σ'.ah) g.d.length ?_ ?_) ?_
 ·refine ⟨0,by omega,by omega,?_⟩
  simp (maxSteps:=9^9) (disch:=first|assumption|decide|omega) only [go_sem,z3,t3,true_and]
  exact ⟨q1,hS,hf,hnx⟩
 ·rintro q tm σ' ⟨j,rfl,hj,t3,t46,t47,t48,q1,hS,hf,hnx⟩
  have hle:=hf.le
  simp (maxSteps:=9^9) (disch:=first|assumption|decide|omega) only [go_sem,z3,t3,t46,t47,t48,aP]
  refine aI (fun hlt=>?_) (fun hlt=>?_)
  ·obtain ⟨b5,o5,c5,rfl,T1,dh,hT⟩:=hg.d.el hlt
   have dh:=hf.ld hW dh
   have hTk:=bW.kn hT
   have hlT:=bW.len hT
   have hll:=hO.l j hlt
   have qW:=Fr.refl hf.wf
   simp (maxSteps:=9^9) (disch:=first|assumption|decide|omega) only [go_sem,z3,t3,t46,t47,t48,dh,hTk,hlT]
   refine bM.st (Fr σ') (fr) fun hF3=>?_
   have hf3:=hf.trans hF3
   have hS3:=hS.keep (ab1 _ _ _) (fun b _ hb=>hF3.old b hb) hF3.le
   have q13:=hF3.get hf.wf q1
   have hle3:=hF3.le
   refine bM.mono (Q:=fun ex tm σ4=>ex = .exit 4∧Tr.aj tm 3 = .c (.ptr (σ.ah+1) 0)∧Tr.aj tm 46 = .c (.sl b5 o5 g.d.length c5)∧Tr.aj tm 47 = .c (.int .i64 (.ofNat g.d.length))∧Tr.aj tm 48 = .c (.int .i64 (.ofNat j))∧σ4.h (σ.ah+1)=some ⟨UZ ev (.sl b5 o5 g.d.length c5) g.e.length bb,none⟩∧XU g.e p2 σ4.h (xQ g.e.length) bb R P bs g.e.length (yg g.d (j+1)) (σ.ah+1+1) σ4.ah∧Fr σ σ4∧σ.ah+1+1≤σ4.ah)
    (aN (fun q tm σ4=>∃ t,q=(ix g.d j).l.length - t∧t≤(ix g.d j).l.length∧Tr.aj tm 3 = .c (.ptr (σ.ah+1) 0)∧Tr.aj tm 46 = .c (.sl b5 o5 g.d.length c5)∧Tr.aj tm 47 = .c (.int .i64 (.ofNat g.d.length))∧Tr.aj tm 48 = .c (.int .i64 (.ofNat j))∧Tr.aj tm 53 = .c T1∧Tr.aj tm 54 = .c (.int .i64 (.ofNat (ix g.d j).l.length))∧Tr.aj tm 55 = .c (.int .i64 (.ofNat t))
     ∧ σ4.h (σ.ah+1)=some ⟨UZ ev (.sl b5 o5 g.d.length c5) g.e.length bb,none⟩∧XU g.e p2 σ4.h (xQ g.e.length) bb R P bs g.e.length (yg g.d j ++ ((ix g.d j).l.take t).map vU) (σ.ah+1+1) σ4.ah∧Fr σ σ4∧σ.ah+1+1≤σ4.ah) (ix g.d j).l.length ?_ ?_) ?_
   ·refine ⟨0,by omega,by omega,?_⟩
    simp (maxSteps:=9^9) (disch:=first|assumption|decide|omega) only [go_sem,z3,t3,t46,t47,t48,true_and,List.take_zero,List.map_nil,List.append_nil]
    exact ⟨q1,hS3,hf3,by omega⟩
   ·rintro q tm σ4 ⟨t,rfl,ht,t3,t46,t47,t48,t53,t54,t55,q14,hS4,hf4,hn4⟩
    have Aw:=hf4.le
    simp (maxSteps:=9^9) (disch:=first|assumption|decide|omega) only [go_sem,z3,t3,t46,t47,t48,t53,t54,t55,aP]
    refine aI (fun hlt4=>?_) (fun hlt4=>?_)
    ·obtain ⟨b6,o6,c6,rfl,-,gQ⟩:=bW.pos hT (by omega)
     have gQ:=hf4.ld hW (gQ t hlt4)
     obtain ⟨e,c,BO,he,hc⟩:=hO.lg j hlt t hlt4
     unfold Hw at gQ
     rw [BO] at gQ
     have hrow:ld σ4.h (bb 3) (0+e*1) 1 false=some (.c (uH (kE g.e) bs e)):=by
      obtain ⟨b7,o7,c7,e7,-,wR⟩:=bW.pos (hS4.f.hlp 3 (q:=fun _=>True) (by decide) (fun _ _=>rfl) fun _ _ _=>trivial) (show 0<xQ g.e.length 3 by show 0<g.e.length;omega)
      have e8:aT g.e.length (bb 3) = .sl b7 o7 g.e.length c7:=e7
      rw [qI (by omega)] at e8
      cases e8
      exact (tK (wR e he)).1
     unfold uH kE at hrow
     rw [Nat.zero_add] at hrow
     obtain ⟨hr1,hr2,hr3⟩:=hS4.r.r e he
     have hr1:σ4.h (bs e)=some ⟨ones (ix g.e e).c.length fun c=>.bool ((yg g.d j ++ ((ix g.d j).l.take t).map vU).contains (e,c)),none⟩:=hr1
     have hb3:=hS4.f.l1 3
     have aqI : bb 3<σ4.ah:=by rcases hS4.f.l2 3 with h|h;exact absurd (show g.e.length=0 from h) (by omega);exact h
     have QL:=Fr.refl hf4.wf
     have hfp:=qI (show 0<g.e.length by omega) (bb 3)
     have anM:=q14
     unfold UZ at anM
     rw [hfp] at anM
     simp (maxSteps:=9^9) (disch:=first|assumption|decide|omega) only [go_sem,z3,t3,t46,t47,t48,t53,t54,t55,gQ,au anM,hrow,aX hr1,hr1]
     refine ⟨(ix g.d j).l.length - (t+1),by omega,t+1,rfl,by omega,rfl,q14,?_,fr,by omega⟩
     have e9:yg g.d j ++ ((ix g.d j).l.take (t+1)).map vU=(yg g.d j ++ ((ix g.d j).l.take t).map vU) ++ [(e,c)]:=by
      rw [aZ hlt4,List.map_append,List.append_assoc,BO];rfl
     rw [e9]
     show qH _ _ _ _ _ _ _ _ _ _ (La _) _ _ _
     rw [← ab4]
     refine (hS4.keep (h':=hset (hset σ4.h σ4.ah ⟨[i0,i0],none⟩) σ4.ah ⟨[.int .i64 (.ofNat e),.int .i64 (.ofNat c)],none⟩) (ab1 _ _ _) (fun b _ hb=>by rw [ak _ _ _ _ (by omega),ak _ _ _ _ (by omega)]) (Nat.le_succ _)).write (ab1 _ _ _) he (dA fun c' _=>?_)
     unfold jd aK La
     split <;> rfl
    ·have:t=(ix g.d j).l.length:=by omega
     subst this
     simp (maxSteps:=9^9) (disch:=first|assumption|decide|omega) only [go_sem,z3,true_and]
     rw [List.take_length,← XV hlt] at hS4
     exact ⟨t3,t46,t47,t48,q14,hS4,hf4,hn4⟩
   ·rintro _ tm σ4 ⟨rfl,t3,t46,t47,t48,q14,hS4,hf4,hn4⟩
    simp (maxSteps:=9^9) (disch:=first|assumption|decide|omega) only [go_sem,z3,t3,t46,t47,t48]
    exact ⟨g.d.length - (j+1),by omega,j+1,rfl,by omega,rfl,q14,hS4,hf4,hn4⟩
  ·have:j=g.d.length:=by omega
   subst this
   simp (maxSteps:=9^9) (disch:=first|assumption|decide|omega) only [go_sem,z3,true_and]
   exact ⟨t3,q1,hS,hf,hnx⟩
 rintro _ tm σ3 ⟨rfl,t3,q1,hS,hf,hnx⟩
 have hle:=hf.le
 simp (maxSteps:=9^9) (disch:=first|assumption|decide|omega) only [go_sem,z3,t3]
 refine ⟨⟨_,rfl,⟨_,_,_,_,q1,(hg.fr hW hf).keep (fun _ _=>rfl) fun b hb=>Nat.lt_of_lt_of_le hb hf.le,⟨R,P,?_,fun i hi=>?_⟩,?_⟩,by show _<_;omega⟩,hf⟩
 ·refine (hS.f.hlp 2 (by decide) (fun j hj=>?_) fun b _ h2=>h2)
  have:=hS.f.q 2 j hj
  show List.all (jD _ _ _ _) B.kn=true
  unfold jD
  have h1:(R j).kn=true:=tN.rk this |>.kn
  have h2:(P j).kn=true:=tN.pkn this
  simp only [List.all_cons,List.all_nil,aem,xG,Bo,h1,h2,Bool.and_self]
 ·exact tN.keep (hS.f.q 2 i hi) (fun _ _=>rfl) fun b hb=>(hS.f.pp b hb).2
 ·refine ⟨fun i=>uH (kE g.e) bs i,hS.f.hlp 3 (by decide) (fun _ _=>rfl) fun b _ h2=>h2,fun i hi=>?_⟩
  rw [← ab3]
  exact hS.r.hlp (fun b _ h2=>h2) (by decide) (fun _ _=>rfl) (fun _ _ _ _=>rfl) hi
end Go.Proofs.Xe
