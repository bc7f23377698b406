/- fH: aro, asi. -/
import Derived.Test.YtjonjhcaniinaaaGreatDoorZ26
set_option linter.all false
set_option maxRecDepth 100000
namespace Go.Proofs.Xe
open Go.RowKit Go.Proofs.Ins
def DK : gZ→Int→Rat
 | [],_=>0
 | t::l,c=>jU t c+DK l c
def dI:gZ→Nat
 | []=>0
 | t::l=>t.length+dI l
theorem abL (l:gZ) (t:dJ) (c:Int):DK (l ++ [t]) c=DK l c+jU t c:=by
 induction l with
 | nil=>show jU t c+0=0+jU t c;grind
 | cons u l ih=>show jU u c+DK (l ++ [t]) c=jU u c+DK l c+jU t c;rw [ih];grind
theorem Kr (l:gZ) (t:dJ):dI (l ++ [t])=dI l+t.length:=by
 induction l with
 | nil=>show t.length+0=0+t.length;omega
 | cons u l ih=>show u.length+dI (l ++ [t])=u.length+dI l+t.length;rw [ih];omega
theorem Kt (l:gZ) : ∀ j,dI (l.take j)≤dI l:=by
 induction l with
 | nil=>intro j;simp
 | cons u l ih =>
  intro j
  cases j with
  | zero=>simp [dI]
  | succ j=>rw [List.take_succ_cons];have:=ih j;unfold dI;omega
theorem Ku (l:gZ) {j:Nat} (h:j<l.length):dI (l.take j)+(ix l j).length≤dI l:=by
 rw [← Kr,← take_snoc h];exact Kt _ _
theorem afd (l:gZ) : ∀ m,eP l m≤l.length:=by
 induction l with
 | nil=>intro m;exact Nat.le_refl 0
 | cons t l ih=>intro m;unfold eP;have:=ih (m - aU t);rw [List.length_cons];split <;> omega
theorem Zr {α:Type} [Inhabited α] (a:α) (l:List α):ix (a::l) 0=a:=rfl
theorem Qq {α:Type} [Inhabited α] (a:α) (l:List α) (j:Nat):ix (a::l) (j+1)=ix l j:=rfl
theorem Fe (l:gZ) (c:Int) : ∀ m,gy l m c=DK (l.take (eP l m)) c+if eP l m<l.length then jU (ix l (eP l m)) c*(jJ l m/aU (ix l (eP l m))) else 0:=by
 induction l with
 | nil=>intro m;show (0:Rat)=0+_;simp;grind
 | cons t l ih =>
  intro m
  unfold gy eP jJ
  by_cases h:m<aU t
  ·simp only [if_pos h]
   rw [if_pos kc,Zr]
   show _=0+_
   grind
  ·simp only [if_neg h]
   rw [ih,List.take_succ_cons,Qq]
   simp only [List.length_cons,Nat.add_lt_add_iff_right]
   show _=jU t c+DK _ c+_
   grind
theorem Ai (l:gZ) (c:Int) (r:Rat) : ∀ m,jV l m r c=if eP l m<l.length then jU (ix l (eP l m)) c*(r/aU (ix l (eP l m))) else 0:=by
 induction l with
 | nil=>intro m;rfl
 | cons t l ih =>
  intro m
  unfold jV eP
  by_cases h:m<aU t
  ·simp only [if_pos h]
   rw [if_pos kc,Zr]
  ·simp only [if_neg h]
   rw [ih,Qq]
   simp only [List.length_cons,Nat.add_lt_add_iff_right]
theorem Qr (l:gZ) : ∀ m,0≤m→0≤jJ l m∧(eP l m<l.length→jJ l m<aU (ix l (eP l m))):=by
 induction l with
 | nil=>intro m h;exact ⟨h,fun h=>by simp [eP] at h⟩
 | cons t l ih =>
  intro m h
  unfold eP jJ
  by_cases h2:m<aU t
  ·simp only [if_pos h2];exact ⟨h,fun _=>h2⟩
  ·simp only [if_neg h2]
   obtain ⟨a,b⟩:=ih (m - aU t) kf
   exact ⟨a,fun h=>by rw [Qq];exact b (by simp only [List.length_cons] at h;omega)⟩
theorem Uz (l:gZ) : ∀ m,jJ l m=m - zq l (eP l m):=by
 induction l with
 | nil=>intro m;show m=m - 0;grind
 | cons t l ih =>
  intro m
  unfold eP jJ
  by_cases h:m<aU t
  ·simp only [if_pos h];show m=m - 0;grind
  ·simp only [if_neg h]
   rw [ih]
   show _=m - (aU t+zq l _)
   grind
structure Kv (D n:Nat) (l:gZ):Prop where
 len:l.length≤1000000
 tl : ∀ t∈l,t.length≤1000000
 st : ∀ t∈l,Sz (aU t)
 id : ∀ t∈l,∀ p∈t,p.1 = -1∨(0≤p.1∧p.1<n)
 sp : ∀ t∈l,∀ p∈t,Sz p.2
 zp : ∀ t∈l,∀ p∈t,Zk D 1 p.2
structure Kw (D:Nat) (l:gZ) (m x:Rat):Prop where
 cum : ∀ k,k≤l.length→Sz (m - zq l k)
 nn:0≤m
 sx:Sz x
 q:eP l m<l.length→Sz (x/aU (ix l (eP l m)))
 z:eP l m<l.length→∀ p∈ix l (eP l m),Zk D 1 (p.2*(x/aU (ix l (eP l m))))
theorem Kw.ne {D:Nat} {l:gZ} {m x:Rat} (h:Kw D l m x) (hf:eP l m<l.length):aU (ix l (eP l m))≠0:=by
 have h1:=Qr l m h.nn
 have h2:=h1.2 hf
 intro e
 rw [e] at h2
 have:=h1.1
 grind
theorem Fb.tier {h:Tr Bk} {v:B} {l:gZ} (hl:Fb h v l) {j:Nat} (hj:j<l.length) : ∃ b o c G,v = .sl b o l.length c∧ld h b (o+j*4) 4 true=some (.agg (jC G (aU (ix l j))))∧HL h 4 G (ix l j).length (fun i=>wK (ix (ix l j) i))∧b<0+b+1:=by
 obtain ⟨G,hG,-,hP⟩:=hl
 obtain ⟨b,o,c,e,hld⟩:=hG.pos jb
 exact ⟨b,o,c,G j,e,hld j hj,hP j hj,jb⟩
theorem Zt {σ0 σ:St} (hW0:WF σ0) (hf:Fr σ0 σ) {rb bc n:Nat} {o:Option (Nat×Nat)} {c:Cap} {f:Int→Rat} (hrb:σ0.ah≤rb) (hbc:σ0.ah≤bc) (hr:oz σ.h rb bc n o c f)
  (l:gZ) (v:B) (hL:Fb σ0.h v l) (m x:Rat) {D k:Nat} (hD:Ae D) (hl:Kv D n l) (hs:Kw D l m x) (hm:Sz m) (hZ : ∀ c,Zk D k (f c)) (hk:k+dI l≤256 ^ uK) :
  aO EN 118 [.c v,.agg [.bool (rn m),.str (rs m),.str (rd m)],.agg [.bool (rn x),.str (rs x),.str (rd x)],.c (.ptr rb 0)] σ fun _ σ'=>oz σ'.h rb bc n o c (fun c=>f c+jV l m x c)∧(∀ c,Zk D (k+dI l) (f c+jV l m x c))∧fE [rb,bc] σ σ':=by
 refine bF (jy.o _ _) jy.h ?_
 unfold jy
 dsimp only
 have l0:=hf.wf.lt hr.r
 have l1:=hf.wf.lt hr.c
 have hlen:=hL.choose_spec.1.len
 simp (maxSteps:=9^9) (disch:=try exact jz) only [go_sem,z3,hlen]
 have hF:=Fr.new (Fr.new (Fr.refl hf.wf) ⟨[.bool (rn m),.str (rs m),.str (rd m)],none⟩) ⟨[.bool (rn x),.str (rs x),.str (rd x)],none⟩
 refine (Zo l v m _ hF.wf (hL.fr hW0 (hf.trans hF)) (fun i hi=>hl.st _ (iE hi)) hs.cum hl.len).mono ?_
 rintro _ σ2 ⟨rfl,hf2⟩
 have hF2:=hF.trans hf2
 have hp2:σ2.h (σ.ah+1)=some ⟨[.bool (rn x),.str (rs x),.str (rd x)],none⟩:=hf2.get hF.wf (aA _ _ _)
 have hl2:σ.ah+1+1≤σ2.ah:=hf2.le
 simp (maxSteps:=9^9) (disch:=try exact jz) only [go_sem,z3,hlen]
 refine aI (fun hlt=>?_) (fun hlt=>?_)
 ·obtain ⟨b,o',c',G,rfl,hld,hP,-⟩:=hL.tier hlt
  have hb0:=hW0.eU hld
  have hld:=hF2.ld hf.wf (hf.ld hW0 hld)
  unfold jC at hld
  have hb:=hF2.wf.eU hld
  have Ht:=iE hlt
  simp (maxSteps:=9^9) (disch:=try exact jz) only [go_sem,z3,hld,au hp2,hP.kn]
  refine aO.st (Fr σ2) (by have hW2:=hF2.wf;exact fr) fun hF3=>?_
  have uG:=hF2.trans hF3
  have hnp:=Ku l hlt
  refine (Zq hW0 (hf.trans uG) hrb hbc (hr.fr hf.wf uG) (ix l (eP l m)) G hP x hs.sx (hl.st _ Ht) (hs.ne hlt) (hs.q hlt) hD hZ (fun p hp=>⟨hl.id _ Ht p hp,hl.sp _ Ht p hp,hs.z hlt p hp⟩) (Nat.le_trans jb hk) (hl.tl _ Ht)).mono ?_
  rintro _ σ4 ⟨hr4,hZ4,hf4⟩
  have e:XA f (ix l (eP l m)) (x/aU (ix l (eP l m)))=fun c=>f c+jV l m x c:=by
   funext c
   rw [Ai,if_pos hlt];rfl
  rw [e] at hr4 hZ4
  simp (maxSteps:=9^9) (disch:=try exact jz) only [go_sem,z3]
  exact ⟨hr4,fun c=>(hZ4 c).mono jb,(uG.ex _).trans hf4⟩
 ·have e:(fun c=>f c+jV l m x c)=f:=by
   funext c
   rw [Ai,if_neg hlt,Rat.add_zero]
  have e2 : ∀ c,f c+jV l m x c=f c:=fun c=>congrFun e c
  simp (maxSteps:=9^9) (disch:=try exact jz) only [go_sem,z3,e,e2]
  have hr2:=hr.fr hf.wf hF2
  have b0:=hF2.wf.lt hr2.r
  have b1:=hF2.wf.lt hr2.c
  refine ⟨hr2.set2 jb jb,fun c=>(hZ c).mono jb,Fr.ex (by have hW2:=hF2.wf;exact fr) _⟩
def Fg (f:Int→Rat) (l:gZ) (c:Int):Rat:=f c+DK l c
theorem afl (f:Int→Rat):Fg f []=f:=by
 funext c
 show f c+0=f c
 grind
theorem abM (f:Int→Rat) (l:gZ) (t:dJ):XA (Fg f l) t 1=Fg f (l ++ [t]):=by
 funext c
 unfold XA Fg
 rw [abL];grind
theorem akx {σ0 σ:St} (hW0:WF σ0) (hf:Fr σ0 σ) {rb bc n:Nat} {o:Option (Nat×Nat)} {c:Cap} {f:Int→Rat} (hrb:σ0.ah≤rb) (hbc:σ0.ah≤bc) (hr:oz σ.h rb bc n o c f)
  (l:gZ) (v:B) (hL:Fb σ0.h v l) (m:Rat) {D k:Nat} (hD:Ae D) (hl:Kv D n l) (hs:Kw D l m (jJ l m)) (hm:Sz m) (hZ : ∀ c,Zk D k (f c)) (hk:k+dI l≤256 ^ uK) (hpos:0<l.length) :
  aO EN 95 [.c v,.agg [.bool (rn m),.str (rs m),.str (rd m)],.c (.ptr rb 0)] σ fun _ σ'=>oz σ'.h rb bc n o c (fun c=>f c+gy l m c)∧(∀ c,Zk D (k+dI l) (f c+gy l m c))∧fE [rb,bc] σ σ':=by
 refine bF (jS.o _ _) jS.h ?_
 unfold jS
 dsimp only
 have l0:=hf.wf.lt hr.r
 have l1:=hf.wf.lt hr.c
 have hlen:=hL.choose_spec.1.len
 simp (maxSteps:=9^9) (disch:=try exact jz) only [go_sem,z3,hlen]
 have hF:=Fr.new (Fr.refl hf.wf) ⟨[.bool (rn m),.str (rs m),.str (rd m)],none⟩
 refine (Zo l v m _ hF.wf (hL.fr hW0 (hf.trans hF)) (fun i hi=>hl.st _ (iE hi)) hs.cum hl.len).mono ?_
 rintro _ σ2 ⟨rfl,hf2⟩
 have hF2:=hF.trans hf2
 have hl2:σ.ah+1≤σ2.ah:=hf2.le
 have hfl:=afd l m
 have hll:=hl.len
 obtain ⟨G,hG,hcap,hP⟩:=hL
 obtain ⟨b,o',c0,rfl,aqp⟩:=hG.pos hpos
 obtain ⟨v',hv',-,⟨h0,-⟩|⟨b2,o2,c2,c',h2,rfl⟩⟩:=amy hcap (.inr ⟨b,o',c0,rfl,hpos⟩) hfl 4
 ·omega
 cases h2
 simp (maxSteps:=9^9) (disch:=try exact jz) only [go_sem,z3,hlen,hv']
 refine bM.st (Fr σ2) (by have hW2:=hF2.wf;exact fr) fun hF3=>?_
 have uG:=hF2.trans hF3
 refine aN (fun q tm σ'=>∃ j,q=eP l m - j∧j≤eP l m∧Tr.aj tm 0 = .c (.sl b o' l.length c0)∧Tr.aj tm 2 = .c (.ptr rb 0)∧Tr.aj tm 6 = .c (.int .i64 (.ofNat (eP l m)))∧Tr.aj tm 7 = .c (.ptr σ2.ah 0)
  ∧ Tr.aj tm 20 = .c (.sl b o' (eP l m) c')∧Tr.aj tm 21 = .c (.int .i64 (.ofNat (eP l m)))∧Tr.aj tm 22 = .c (.int .i64 (.ofNat j))
  ∧ σ'.h σ2.ah=some ⟨[.bool (rn (jJ l m)),.str (rs (jJ l m)),.str (rd (jJ l m))],none⟩∧oz σ'.h rb bc n o c (Fg f (l.take j))∧(∀ c,Zk D (k+dI (l.take j)) (Fg f (l.take j) c))∧fE [rb,bc] σ σ'∧σ2.ah+1≤σ'.ah) (eP l m) ?_ ?_
 ·refine ⟨0,jb,jb,?_⟩
  simp (maxSteps:=9^9) (disch:=try exact jz) only [go_sem,z3,true_and,List.take_zero,afl]
  exact ⟨hr.fr hf.wf uG,fun c=>(hZ c).mono jb,uG.ex _,jp⟩
 ·rintro q tm σ' ⟨j,rfl,hj,t0,t2,t6,t7,t20,t21,t22,hq,hr',hZ',hf',hnx⟩
  simp (maxSteps:=9^9) (disch:=try exact jz) only [go_sem,z3,t0,t2,t6,t7,t20,t21,t22]
  refine aI (fun hlt=>?_) (fun hlt=>?_)
  ·have hjl:j<l.length:=jb
   have Ht:=iE hjl
   have Ic:=hP j hjl
   have htl:=hl.tl _ Ht
   have hpl:=Ic.len
   have abN:=aqp j hjl
   have hb0:=hW0.eU abN
   have hld:=hf'.ld hf.wf (by simp;omega) (hf.ld hW0 abN)
   unfold jC at hld
   have hb:=hf'.wf.eU hld
   simp (maxSteps:=9^9) (disch:=try exact jz) only [go_sem,z3,t0,t2,t6,t7,t20,t21,t22,hld,Ic.kn,hpl]
   refine bM.st (Fr σ') (by have hW2:=hf'.wf;exact fr) fun jX=>?_
   refine aN (fun q tm σ3=>∃ i,q=(ix l j).length - i∧i≤(ix l j).length∧Tr.aj tm 0 = .c (.sl b o' l.length c0)∧Tr.aj tm 2 = .c (.ptr rb 0)∧Tr.aj tm 6 = .c (.int .i64 (.ofNat (eP l m)))∧Tr.aj tm 7 = .c (.ptr σ2.ah 0)
    ∧ Tr.aj tm 20 = .c (.sl b o' (eP l m) c')∧Tr.aj tm 21 = .c (.int .i64 (.ofNat (eP l m)))∧Tr.aj tm 22 = .c (.int .i64 (.ofNat j))∧Tr.aj tm 27 = .c (G j)∧Tr.aj tm 28 = .c (.int .i64 (.ofNat (ix l j).length))∧Tr.aj tm 29 = .c (.int .i64 (.ofNat i))
    ∧ oz σ3.h rb bc n o c (XA (Fg f (l.take j)) ((ix l j).take i) 1)∧(∀ c,Zk D (k+dI (l.take j)+i) (XA (Fg f (l.take j)) ((ix l j).take i) 1 c))∧fE [rb,bc] σ' σ3) (ix l j).length ?_ ?_
   ·refine ⟨0,jb,jb,?_⟩
    simp (maxSteps:=9^9) (disch:=try exact jz) only [go_sem,z3,t0,t2,t6,t7,t20,t21,t22,true_and,List.take_zero,Zp]
    exact ⟨hr'.fr hf'.wf jX,hZ',jX.ex _⟩
   ·rintro q tm2 σ3 ⟨i,rfl,hi,t0,t2,t6,t7,t20,t21,t22,t27,t28,t29,hr3,hZ3,hf3⟩
    simp (maxSteps:=9^9) (disch:=try exact jz) only [go_sem,z3,t0,t2,t6,t7,t20,t21,t22,t27,t28,t29]
    refine aI (fun hli=>?_) (fun hli=>?_)
    ·obtain ⟨b3,o3,c3,e3,rW⟩:=Ic.pos jb
     rw [e3] at t27
     have rW:=rW i hli
     have hb3:=hW0.eU rW
     have hlx:=(hf'.trans hf3).ld hf.wf (by simp;omega) (hf.ld hW0 rW)
     unfold wK at hlx
     have hb4:=hf3.wf.eU hlx
     have hsn:=Uy (Fg f (l.take j)) ((ix l j).take i) (ix (ix l j) i) 1
     rw [← take_snoc hli,Rat.mul_one] at hsn
     have hpm:=iE hli
     have hid:=hl.id _ Ht _ hpm
     have hsp:=hl.sp _ Ht _ hpm
     have hzp:=hl.zp _ Ht _ hpm
     have hnp:=Ku l hjl
     generalize ix (ix l j) i=p at *
     simp (maxSteps:=9^9) (disch:=try exact jz) only [go_sem,z3,t0,t2,t6,t7,t20,t21,t22,t27,t28,t29,hlx]
     refine aO.st (Fr σ3) (by have hW2:=hf3.wf;exact fr) fun rX=>?_
     refine (akw rX.wf (hr3.fr hf3.wf rX) _ hsp _ ((hZ3 _).sz hD (Nat.le_trans jb hk)) hid).mono ?_
     rintro _ σ5 ⟨hr5,hf5⟩
     rw [hsn] at hr5
     simp (maxSteps:=9^9) (disch:=try exact jz) only [go_sem,z3,t0,t2,t6,t7,t20,t21,t22,t27,t28,t29]
     refine ⟨(ix l j).length - (i+1),jb,i+1,rfl,jb,e3.symm ▸ rfl,rfl,hr5,fun c=>?_,hf3.trans ((rX.ex _).trans hf5)⟩
     rw [← hsn]
     refine (hZ3 c).add (l:=1) ?_
     split
     ·exact hzp
     ·exact Zk.zero
    ·have:i=(ix l j).length:=jb
     subst this
     rw [List.take_length,abM,← take_snoc hjl] at hr3 hZ3
     have hnp:=Kr (l.take j) (ix l j)
     rw [← take_snoc hjl] at hnp
     have hfx:=hf3.le
     have hqx:=hf3.get hf'.wf (show ¬ σ2.ah∈[rb,bc] by simp;omega) hq
     simp (maxSteps:=9^9) (disch:=try exact jz) only [go_sem,z3,t0,t2,t6,t7,t20,t21,t22,t27,t28,t29]
     exact ⟨eP l m - (j+1),jb,j+1,rfl,jb,rfl,hqx,hr3,fun c=>(hZ3 c).mono jb,hf'.trans hf3,jb⟩
  ·have:j=eP l m:=jb
   subst this
   simp (maxSteps:=9^9) (disch:=try exact jz) only [go_sem,z3,t0,t2,t6,t7,t20,t21,t22]
   refine aI (fun hlf=>?_) (fun hlf=>?_)
   ·have Ht:=iE hlf
    have abN:=aqp _ hlf
    have hb0:=hW0.eU abN
    have hld:=hf'.ld hf.wf (by simp;omega) (hf.ld hW0 abN)
    unfold jC at hld
    have hb:=hf'.wf.eU hld
    have hnp:=Ku l hlf
    simp (maxSteps:=9^9) (disch:=try exact jz) only [go_sem,z3,t0,t2,t6,t7,t20,t21,t22,hld,au hq,(hP _ hlf).kn]
    refine (Zq hW0 (hf'.to hf (by simp;omega)) hrb hbc hr' (ix l (eP l m)) (G (eP l m)) (hP _ hlf) (jJ l m) hs.sx (hl.st _ Ht) (hs.ne hlf) (hs.q hlf) hD hZ' (fun p hp=>⟨hl.id _ Ht p hp,hl.sp _ Ht p hp,hs.z hlf p hp⟩) (Nat.le_trans jb hk) (hl.tl _ Ht)).mono ?_
    rintro _ σ4 ⟨hr4,hZ4,hf5⟩
    have e:XA (Fg f (l.take (eP l m))) (ix l (eP l m)) (jJ l m/aU (ix l (eP l m)))=fun c=>f c+gy l m c:=by
     funext c
     rw [Fe,if_pos hlf]
     unfold XA Fg
     grind
    rw [e] at hr4 hZ4
    simp (maxSteps:=9^9) (disch:=try exact jz) only [go_sem,z3]
    exact ⟨hr4,fun c=>(hZ4 c).mono jb,hf'.trans hf5⟩
   ·have e:Fg f (l.take (eP l m))=fun c=>f c+gy l m c:=by
     funext c
     rw [Fe,if_neg hlf]
     unfold Fg
     grind
    have hnp:=Kt l (eP l m)
    rw [e] at hr' hZ'
    simp (maxSteps:=9^9) (disch:=try exact jz) only [go_sem,z3]
    exact ⟨hr',fun c=>(hZ' c).mono jb,hf'⟩
theorem pG {α:Type} (l:List α) (a:α) (f:α→Rat):aF (l ++ [a]) f=aF l f+f a:=by
 induction l with
 | nil=>show f a+0=0+f a;grind
 | cons b l ih=>show f b+aF (l ++ [a]) f=f b+aF l f+f a;rw [ih];grind
theorem Qs {α:Type} {D k:Nat} {f:α→Rat} : ∀ {l:List α},(∀ a∈l,Zk D k (f a))→Zk D (k*l.length) (aF l f)
 | [],_=>Zk.zero
 | a::l,h=>by
  have:=(h a kc).add (Qs (l:=l) fun b hb=>h b (by simp [hb]))
  rw [List.length_cons,Nat.mul_succ,Nat.add_comm]
  exact this
theorem afm {α:Type} {l:List α} {a:α} {j:Nat} (h:a∈l.take j):a∈l:=List.mem_of_mem_take h
def MN (ms:List Nat) (i:Nat):B:=.int .i64 (.ofNat (ix ms i))
theorem Qu {σ:St} (hW:WF σ) {n:Nat} (ms:List Nat) (mv lv rv:B) (f:Nat→Rat) (hm:HC σ.h mv ms.length (MN ms)) (hv:HL σ.h 3 rv n fun i=>jl (f i)) (hms : ∀ i∈ms,i<n) (hl:ms.length≤1000000)
  {D k:Nat} (hD:Ae D) (hZ : ∀ i,i<n→Zk D k (f i)) (hk:k*(ms.length+1)≤256 ^ uK) :
  aO EN 96 [.agg [mv,lv],.c rv] σ fun r σ'=>r = .agg [.bool (rn (aF ms f)),.str (rs (aF ms f)),.str (rd (aF ms f))]∧Fr σ σ':=by
 refine bF (jT.o _ _) jT.h ?_
 unfold jT
 dsimp only
 have hlen:=hm.len
 simp (maxSteps:=9^9) (disch:=try exact jz) only [go_sem,z3,hlen,hm.kn]
 refine bM.st (Fr σ) (fr) fun hF=>?_
 refine aN (fun q tm σ'=>∃ j,q=ms.length - j∧j≤ms.length∧Tr.aj tm 1 = .c rv∧Tr.aj tm 4 = .c (.ptr (σ.ah+1) 0)∧Tr.aj tm 5 = .c (.ptr (σ.ah+1+1) 0)∧Tr.aj tm 10 = .c mv∧Tr.aj tm 11 = .c (.int .i64 (.ofNat ms.length))∧Tr.aj tm 12 = .c (.int .i64 (.ofNat j))
  ∧ σ'.h (σ.ah+1)=some ⟨[.bool (rn 0),.str (rs 0),.str (rd 0)],none⟩∧σ'.h (σ.ah+1+1)=some ⟨[.bool (rn (aF (ms.take j) f)),.str (rs (aF (ms.take j) f)),.str (rd (aF (ms.take j) f))],none⟩∧Fr σ σ'∧σ.ah+3≤σ'.ah) ms.length ?_ ?_
 ·refine ⟨0,jb,jb,?_⟩
  simp (maxSteps:=9^9) (disch:=try exact jz) only [go_sem,z3,true_and,List.take_zero,show aF ([]:List Nat) f=0 from rfl]
  exact ⟨hF,jb⟩
 ·rintro q tm σ' ⟨j,rfl,hj,t1,t4,t5,t10,t11,t12,hq1,hq2,hf',hnx⟩
  simp (maxSteps:=9^9) (disch:=try exact jz) only [go_sem,z3,t1,t4,t5,t10,t11,t12]
  refine aI (fun hlt=>?_) (fun hlt=>?_)
  ·obtain ⟨b,o,c,rfl,hld⟩:=hm.pos jb
   have hld:=hf'.ld hW (hld j hlt)
   have hn:=hms _ (iE hlt)
   obtain ⟨b2,o2,c2,rfl,XB⟩:=hv.pos jb
   have XB:=hf'.ld hW (XB _ hn)
   have hb2:=hf'.wf.eU XB
   unfold MN at hld
   unfold jl at XB
   have hsn:=pG (ms.take j) (ix ms j) f
   rw [← take_snoc hlt] at hsn
   have hz1:Sz (f (ix ms j)):=(hZ _ hn).sz hD (Nat.le_trans (Nat.le_mul_of_pos_right _ jb) hk)
   have hz2:Sz (aF (ms.take j) f):=(Qs fun a ha=>hZ a (hms a (afm ha))).sz hD (Nat.le_trans (Nat.mul_le_mul_left _ (by rw [List.length_take];omega)) hk)
   simp (maxSteps:=9^9) (disch:=try exact jz) only [go_sem,z3,t1,t4,t5,t10,t11,t12,hld,XB,au hq2,hq1,hq2,aX hq2,← hsn]
   refine ⟨ms.length - (j+1),jb,j+1,rfl,jb,rfl,rfl,?_,jb⟩
   exact fr
  ·have:j=ms.length:=jb
   subst this
   rw [List.take_length] at hq2
   simp (maxSteps:=9^9) (disch:=try exact jz) only [go_sem,z3,t1,t4,t5,t10,t11,t12,au hq2,hq1,aX hq1]
   exact fr
structure Ky (h:Tr Bk) (rv pv:B) (e:iq):Prop where
 rk:Fb h rv e.rk
 ps : ∃ Gm Gl:Nat→B,HL h 2 pv e.ps.length (fun i=>[Gm i,Gl i])∧∀ i,i<e.ps.length→HC h (Gm i) (ix e.ps i).1.length (MN (ix e.ps i).1)∧Fb h (Gl i) (ix e.ps i).2
theorem Ky.fr {σ σ' : St} (hW:WF σ) (hf:Fr σ σ') {rv pv:B} {e:iq} (h:Ky σ.h rv pv e):Ky σ'.h rv pv e:=by
 obtain ⟨h1,Gm,Gl,h2,h3⟩:=h
 exact ⟨h1.fr hW hf,Gm,Gl,h2.fr hW hf,fun i hi=>⟨(h3 i hi).1.fr hW hf,(h3 i hi).2.fr hW hf⟩⟩
def jD (n:Nat) (rv pv:B) (t:Rat):List B:=[.int .i64 (.ofNat n),rv,pv,.bool (rn t),.str (rs t),.str (rd t)]
theorem Fb.kn {h:Tr Bk} {v:B} {l:gZ} (hl:Fb h v l):v.kn=true:=hl.choose_spec.1.kn
theorem Ky.pkn {h:Tr Bk} {rv pv:B} {e:iq} (hl:Ky h rv pv e):pv.kn=true:=by
 obtain ⟨_,Gm,Gl,h2,h3⟩:=hl
 exact h2.kn
structure aqr (σ σ' : St) (r:V) (n:Nat) (f:Nat→Rat) (b:Nat):Prop where
 r:r = .c (.sl b 0 n (.ex n))
 c:σ'.h b=some ⟨dO n f,none⟩
 b:σ.ah≤b
theorem Qv {σ:St} (hW:WF σ) {n:Nat} {rv pv:B} (t:Rat) (e:iq) (hL:Ky σ.h rv pv e) (m:Rat) {D:Nat} (hD:Ae D) (hn:n≤1000000) (hl:Kv D n e.rk) (hs:Kw D e.rk m (jJ e.rk m)) (hm:Sz m) (hk:dI e.rk≤256 ^ uK) (hpos:0<e.rk.length) :
  aO EN 56 [.agg (jD n rv pv t),.agg [.bool (rn m),.str (rs m),.str (rd m)]] σ fun r σ'=>(∃ b,aqr σ σ' r n (fun i=>Aq e m i) b)∧(∀ i:Nat,Zk D (dI e.rk) (Aq e m i))∧Fr σ σ':=by
 refine bF (jq.o _ _) jq.h ?_
 unfold jq jD
 dsimp only
 simp (maxSteps:=9^9) (disch:=try exact jz) only [go_sem,z3,hL.rk.kn]
 refine aO.st (Fr σ) (fr) fun hF=>?_
 refine (akx (f:=fun _=>0) (k:=0) hW hF jb jb ⟨aA _ _ _,(ak _ _ _ _ jb).trans (aA _ _ _),rfl,rfl,jb⟩ e.rk rv hL.rk m hD hl hs hm (fun _=>Zk.zero) jb hpos).mono ?_
 rintro _ σ2 ⟨hr2,hZ2,hf2⟩
 have hz:(fun c=>(0:Rat)+gy e.rk m c)=gy e.rk m:=by funext c;grind
 have hz2 : ∀ c,(0:Rat)+gy e.rk m c=gy e.rk m c:=fun c=>by grind
 rw [hz] at hr2
 simp only [hz2,Nat.zero_add] at hZ2
 have h5:=hr2.r
 simp (maxSteps:=9^9) (disch:=try exact jz) only [go_sem,z3,au h5]
 exact ⟨⟨_,rfl,hr2.c,jb⟩,fun i=>hZ2 i,hf2.to hF (by simp;omega)⟩
theorem ajc {σ:St} (hW:WF σ) {n:Nat} {rv pv:B} (t:Rat) (e:iq) (hL:Ky σ.h rv pv e) (m:Rat) {D:Nat} (hD:Ae D) (hn:n≤1000000) (hl:Kv D n e.rk) (hs:Kw D e.rk m 1) (hm:Sz m) (hk:dI e.rk≤256 ^ uK) :
  aO EN 117 [.agg (jD n rv pv t),.agg [.bool (rn m),.str (rs m),.str (rd m)]] σ fun r σ'=>(∃ b,aqr σ σ' r n (fun i=>rts e m i) b)∧(∀ i:Nat,Zk D (dI e.rk) (rts e m i))∧Fr σ σ':=by
 refine bF (jw.o _ _) jw.h ?_
 unfold jw jD
 dsimp only
 simp (maxSteps:=9^9) (disch:=try exact jz) only [go_sem,z3,hL.rk.kn]
 refine aO.st (Fr σ) (fr) fun hF=>?_
 refine (Zt (f:=fun _=>0) (k:=0) hW hF jb jb ⟨aA _ _ _,(ak _ _ _ _ jb).trans (aA _ _ _),rfl,rfl,jb⟩ e.rk rv hL.rk m 1 hD hl hs hm (fun _=>Zk.zero) jb).mono ?_
 rintro _ σ2 ⟨hr2,hZ2,hf2⟩
 have hz:(fun c=>(0:Rat)+jV e.rk m 1 c)=jV e.rk m 1:=by funext c;grind
 have hz2 : ∀ c,(0:Rat)+jV e.rk m 1 c=jV e.rk m 1 c:=fun c=>by grind
 rw [hz] at hr2
 simp only [hz2,Nat.zero_add] at hZ2
 have h5:=hr2.r
 simp (maxSteps:=9^9) (disch:=try exact jz) only [go_sem,z3,au h5]
 exact ⟨⟨_,rfl,hr2.c,jb⟩,fun i=>hZ2 i,hf2.to hF (by simp;omega)⟩
theorem Zv {σ:St} (hW:WF σ) {n b:Nat} {c:Cap} {f:Nat→Rat} (hb:σ.h b=some ⟨dO n f,none⟩) (hn:n≤1000000) :
  aO EN 54 [.c (.sl b 0 n c)] σ fun r σ'=>(∃ b' c' o',r = .c (.sl b' 0 n c')∧σ'.h b' = some ⟨dO n f,o'⟩∧plo o' = true∧rdo o' = true∧σ.ah≤b'∧b' < σ'.ah)∧Fr σ σ':=by
 refine bF (gY.o _ _) gY.h ?_
 unfold gY
 dsimp only
 have hbl:=hW.lt hb
 by_cases h0:n=0
 ·subst h0
  simp (maxSteps:=9^9) (disch:=try exact jz) only [go_sem,z3,hb]
  refine ⟨⟨σ.ah,_,none,rfl,aA _ _ _,rfl,rfl,jp,Nat.lt_succ_self _⟩,?_⟩
  exact fr
 ·simp (maxSteps:=9^9) (disch:=try exact jz) only [go_sem,z3,hb]
  refine ⟨⟨σ.ah+1,_,_,rfl,aA _ _ _,rfl,rfl,jb,Nat.lt_succ_self _⟩,?_⟩
  exact fr
def zF (l:List Nat) (f:Nat→Rat):Int→Rat:=fun i=>if 0≤i then (if l.contains i.toNat then 0 else f i.toNat) else 0
theorem Kz (l:List Nat) (f:Nat→Rat):zF l f (-1)=0:=if_neg jb
theorem Qw (l:List Nat) (f:Nat→Rat) (i:Nat):zF l f i=if l.contains i then 0 else f i:=by
 unfold zF
 rw [if_pos jb,Int.toNat_natCast]
theorem ajd (l:List Nat) (f:Nat→Rat) (k n:Nat):dO n (aK (fun i=>zF l f i) k 0)=dO n fun i=>zF (l ++ [k]) f i:=by
 refine gB fun i _=>?_
 show (if i=k then 0 else zF l f i)=_
 rw [Qw,Qw,List.contains_append]
 by_cases h:i=k
 ·subst h;simp
 ·rw [if_neg h]
  simp [h]
def flat (ps:List (List Nat×gZ)):List Nat:=ps.flatMap fun p=>p.1
theorem abO (ps:List (List Nat×gZ)) (p:List Nat×gZ):flat (ps ++ [p])=flat ps ++ p.1:=by unfold flat;simp
theorem Gh (e:iq) (c:Nat):(flat e.ps).contains c=pooled e c:=by
 unfold flat pooled
 induction e.ps with
 | nil=>rfl
 | cons p l ih=>rw [List.flatMap_cons,List.contains_append,List.any_cons,ih]
theorem afn {σ:St} (hW:WF σ) {n b:Nat} {rv pv:B} (t:Rat) (e:iq) (hL:Ky σ.h rv pv e) {f:Nat→Rat} (hb:σ.h b=some ⟨dO n f,none⟩) {c:Cap} (hn:n≤1000000) (hp:e.ps.length≤1000000) (hm : ∀ p∈e.ps,p.1.length≤1000000∧∀ i∈p.1,i<n) :
  aO EN 94 [.agg (jD n rv pv t),.c (.sl b 0 n c)] σ fun r σ'=>(∃ rb bc o c',r = .c (.ptr rb 0)∧oz σ'.h rb bc n o c' (zF (flat e.ps) f)∧σ.ah≤rb∧σ.ah≤bc)∧Fr σ σ':=by
 refine bF (jH.o _ _) jH.h ?_
 unfold jH jD
 dsimp only
 simp (maxSteps:=9^9) (disch:=try exact jz) only [go_sem,z3]
 refine aO.st (Fr σ) (fr) fun hF=>?_
 refine (Zv hF.wf (hF.get hW hb) hn).mono ?_
 rintro _ σ2 ⟨⟨bc,c',o,rfl,h2,hpl,hrd,hbc,hbc2⟩,hf2⟩
 have hF2:=hF.trans hf2
 obtain ⟨-,Gm,Gl,hG,hP⟩:=hL
 have hlen:=hG.len
 have hbox:σ2.h σ.ah=some ⟨[.int .i64 (.ofNat n),rv,pv,.bool (rn t),.str (rs t),.str (rd t)],none⟩:=hf2.get hF.wf (aA _ _ _)
 have hl2:σ.ah+1≤σ2.ah:=hf2.le
 have hbc:σ.ah+1≤bc:=hbc
 simp (maxSteps:=9^9) (disch:=try exact jz) only [go_sem,z3,au hbox,hlen,hG.kn]
 refine aN (fun q tm σ'=>∃ j,q=e.ps.length - j∧j≤e.ps.length∧Tr.aj tm 5 = .c (.ptr σ2.ah 0)∧Tr.aj tm 15 = .c pv∧Tr.aj tm 16 = .c (.int .i64 (.ofNat e.ps.length))∧Tr.aj tm 17 = .c (.int .i64 (.ofNat j))
  ∧ oz σ'.h σ2.ah bc n o c' (zF (flat (e.ps.take j)) f)∧Fr σ σ'∧σ2.ah+1≤σ'.ah) e.ps.length ?_ ?_
 ·refine ⟨0,jb,jb,?_⟩
  simp (maxSteps:=9^9) (disch:=try exact jz) only [go_sem,z3,true_and,List.take_zero]
  refine ⟨⟨?_,?_,hpl,hrd,jb⟩,?_,jp⟩
  ·rw [aA,Kz]
  ·rw [ak _ _ _ _ jb,h2]
   congr 2
  ·exact fr
 ·rintro q tm σ' ⟨j,rfl,hj,t5,t15,t16,t17,hr,hf',hnx⟩
  simp (maxSteps:=9^9) (disch:=try exact jz) only [go_sem,z3,t5,t15,t16,t17]
  refine aI (fun hlt=>?_) (fun hlt=>?_)
  ·obtain ⟨b2,o2,c2,rfl,hld⟩:=hG.pos jb
   have hld:=hf'.ld hW (hld j hlt)
   have hb2:=hf'.wf.eU hld
   have Ic:=hP j hlt
   have hpl2:=Ic.1.len
   have hmj:=hm _ (iE hlt)
   have hfs:=abO (e.ps.take j) (ix e.ps j)
   rw [← take_snoc hlt] at hfs
   generalize ix e.ps j=p at *
   simp (maxSteps:=9^9) (disch:=try exact jz) only [go_sem,z3,t5,t15,t16,t17,hld,Ic.1.kn,Ic.2.kn,hpl2]
   refine bM.st (Fr σ') (by have hW2:=hf'.wf;exact fr) fun jX=>?_
   refine aN (fun q tm σ3=>∃ i,q=p.1.length - i∧i≤p.1.length∧Tr.aj tm 5 = .c (.ptr σ2.ah 0)∧Tr.aj tm 15 = .c (.sl b2 o2 e.ps.length c2)∧Tr.aj tm 16 = .c (.int .i64 (.ofNat e.ps.length))∧Tr.aj tm 17 = .c (.int .i64 (.ofNat j))
    ∧ Tr.aj tm 22 = .c (Gm j)∧Tr.aj tm 23 = .c (.int .i64 (.ofNat p.1.length))∧Tr.aj tm 24 = .c (.int .i64 (.ofNat i))
    ∧ oz σ3.h σ2.ah bc n o c' (zF (flat (e.ps.take j) ++ p.1.take i) f)∧Fr σ σ3∧σ2.ah+1≤σ3.ah) p.1.length ?_ ?_
   ·refine ⟨0,jb,jb,?_⟩
    simp (maxSteps:=9^9) (disch:=try exact jz) only [go_sem,z3,t5,t15,t16,t17,true_and,List.take_zero,List.append_nil]
    exact ⟨hr.fr hf'.wf jX,hf'.trans jX,jb⟩
   ·rintro q tm2 σ3 ⟨i,rfl,hi,t5,t15,t16,t17,t22,t23,t24,hr3,hf3,hn3⟩
    simp (maxSteps:=9^9) (disch:=try exact jz) only [go_sem,z3,t5,t15,t16,t17,t22,t23,t24]
    refine aI (fun hli=>?_) (fun hli=>?_)
    ·obtain ⟨b3,o3,c3,e3,rW⟩:=Ic.1.pos jb
     rw [e3] at t22
     have rW:=hf3.ld hW (rW i hli)
     unfold MN at rW
     have hin:=hmj.2 _ (iE hli)
     have hzs:=ajd (flat (e.ps.take j) ++ p.1.take i) f (ix p.1 i) n
     rw [List.append_assoc,← take_snoc hli] at hzs
     have aqs:=hr3.r
     have aqt:=hr3.c
     have hb3:=hf3.wf.lt aqt
     simp (maxSteps:=9^9) (disch:=try exact jz) only [go_sem,z3,t5,t15,t16,t17,t22,t23,t24,rW,au aqs,aX aqt,hpl,hzs]
     refine ⟨p.1.length - (i+1),jb,i+1,rfl,jb,e3.symm ▸ rfl,rfl,⟨?_,aA _ _ _,hpl,hrd,jb⟩,?_,jb⟩
     ·rw [ak _ _ _ _ jb,aqs,Kz,Kz]
     ·exact fr
    ·have:i=p.1.length:=jb
     subst this
     rw [List.take_length,← hfs] at hr3
     simp (maxSteps:=9^9) (disch:=try exact jz) only [go_sem,z3,t5,t15,t16,t17,t22,t23,t24]
     exact ⟨e.ps.length - (j+1),jb,j+1,rfl,jb,rfl,hr3,hf3,jb⟩
  ·have:j=e.ps.length:=jb
   subst this
   rw [List.take_length] at hr
   simp (maxSteps:=9^9) (disch:=try exact jz) only [go_sem,z3,t5,t15,t16,t17]
   exact ⟨⟨_,_,_,_,rfl,hr,jb,jb⟩,hf'⟩
def DL:List (List Nat×gZ)→Nat
 | []=>0
 | p::l=>dI p.2+DL l
theorem UA (l:List (List Nat×gZ)) (p:List Nat×gZ):DL (l ++ [p])=DL l+dI p.2:=by
 induction l with
 | nil=>show dI p.2+0=0+dI p.2;omega
 | cons q l ih=>show dI q.2+DL (l ++ [p])=dI q.2+DL l+dI p.2;rw [ih];omega
theorem UC (l:List (List Nat×gZ)) : ∀ j,DL (l.take j)≤DL l:=by
 induction l with
 | nil=>intro j;simp
 | cons u l ih =>
  intro j
  cases j with
  | zero=>simp [DL]
  | succ j=>rw [List.take_succ_cons];have:=ih j;unfold DL;omega
structure EOk (D n:Nat) (e:iq):Prop where
 hn:n≤1000000
 rk:Kv D n e.rk
 rk0:0<e.rk.length
 pl:e.ps.length≤1000000
 pm : ∀ p∈e.ps,p.1.length≤1000000∧∀ i∈p.1,i<n
 pk : ∀ p∈e.ps,Kv D n p.2∧0<p.2.length
 sz:dI e.rk*1000001+DL e.ps≤256 ^ uK
structure MOk (D:Nat) (e:iq) (m:Rat):Prop where
 hm:Sz m
 rk:Kw D e.rk m (jJ e.rk m)
 ps : ∀ p∈e.ps,Kw D p.2 (lJ e m p) (jJ p.2 (lJ e m p))∧Sz (lJ e m p)
structure ROk (D:Nat) (e:iq) (m:Rat):Prop where
 rk:Kw D e.rk m 1
 ps : ∀ p∈e.ps,Kw D p.2 (lJ e m p) (wU e m p)∧Sz (wU e m p)
def wL (g:List Nat×gZ→Int→Rat) (f:Int→Rat) (ps:List (List Nat×gZ)) (c:Int):Rat:=f c+aF ps fun p=>g p c
theorem UD (g:List Nat×gZ→Int→Rat) (f:Int→Rat):wL g f []=f:=by
 funext c
 show f c+0=f c
 grind
theorem Oc (g:List Nat×gZ→Int→Rat) (f:Int→Rat) (ps:List (List Nat×gZ)) (p:List Nat×gZ):(fun c=>wL g f ps c+g p c)=wL g f (ps ++ [p]):=by
 funext c
 unfold wL
 rw [pG];grind
theorem Qx {h:Tr Bk} {b n:Nat} {c:Cap} {f:Nat→Rat} {o:Option (Nat×Nat)} (hb:h b=some ⟨dO n f,o⟩) (ho:rdo o=true):HL h 3 (.sl b 0 n c) n fun i=>jl (f i):=by
 refine .inr ⟨b,0,c,rfl,fun i hi=>?_⟩
 rw [au hb,P6]
 dsimp only
 rw [ho,Nat.zero_add,YV _ _ _ hi];rfl
theorem Oe {σ:St} (hW:WF σ) {n:Nat} {rv pv:B} (t:Rat) (e:iq) (hL:Ky σ.h rv pv e) (m:Rat) {D:Nat} (hD:Ae D) (he:EOk D n e) (hm:MOk D e m) :
  aO EN 55 [.agg (jD n rv pv t),.agg [.bool (rn m),.str (rs m),.str (rd m)]] σ fun r σ'=>(∃ bc c o,r = .cZ (.c (.sl bc 0 n c)) (.cZ (.agg [.bool (rn (Zc e m)),.str (rs (Zc e m)),.str (rd (Zc e m))]) .tnil)∧σ'.h bc=some ⟨dO n (sK e m),o⟩∧plo o=true∧rdo o=true∧σ.ah≤bc∧bc<σ'.ah)∧Fr σ σ':=by
 refine bF (iZ.o _ _) iZ.h ?_
 unfold iZ jD
 dsimp only
 simp (maxSteps:=9^9) (disch:=try exact jz) only [go_sem,z3,hL.rk.kn,hL.pkn]
 refine aO.st (Fr σ) (fr) fun hF=>?_
 have hnp:dI e.rk≤256 ^ uK:=Nat.le_trans jb he.sz
 refine (Qv hF.wf t e (hL.fr hW hF) m hD he.hn he.rk hm.rk hm.hm hnp he.rk0).mono ?_
 rintro _ σ2 ⟨⟨b,rfl,h2,hb⟩,hZ,hf2⟩
 have hF2:=hF.trans hf2
 have hb:σ.ah+1+1+1≤b:=hb
 have hl2:σ.ah+1+1+1≤σ2.ah:=hf2.le
 have hx0:σ2.h σ.ah=some ⟨[.int .i64 (.ofNat n),rv,pv,.bool (rn t),.str (rs t),.str (rd t)],none⟩:=hf2.get hF.wf ((ak _ _ _ _ jb).trans ((ak _ _ _ _ jb).trans (aA _ _ _)))
 have hx2:σ2.h (σ.ah+1+1)=some ⟨[.bool (rn 0),.str (rs 0),.str (rd 0)],none⟩:=hf2.get hF.wf (aA _ _ _)
 have hbl:=hf2.wf.lt h2
 simp (maxSteps:=9^9) (disch:=try exact jz) only [go_sem,z3,au hx0,hL.rk.kn,hL.pkn]
 refine (afn hf2.wf t e (hL.fr hW hF2) h2 he.hn he.pl he.pm).mono ?_
 rintro _ σ3 ⟨⟨rb,bc,o,c',rfl,hr3,hrb,hbc⟩,hf3⟩
 have hF3:=hF2.trans hf3
 have hl3:=hf3.le
 have hx0:=hf3.get hf2.wf hx0
 have hx2:=hf3.get hf2.wf hx2
 have h2:=hf3.get hf2.wf h2
 obtain ⟨-,Gm,Gl,hG,hP⟩:=hL
 have hlen:=hG.len
 simp (maxSteps:=9^9) (disch:=try exact jz) only [go_sem,z3,au hx0,hG.kn,hlen]
 refine aN (fun q tm σ'=>∃ j,q=e.ps.length - j∧j≤e.ps.length∧Tr.aj tm 5 = .c (.ptr (σ.ah+1+1) 0)∧Tr.aj tm 6 = .c (.sl b 0 n (.ex n))∧Tr.aj tm 7 = .c (.ptr rb 0)∧Tr.aj tm 17 = .c pv∧Tr.aj tm 18 = .c (.int .i64 (.ofNat e.ps.length))∧Tr.aj tm 19 = .c (.int .i64 (.ofNat j))
  ∧ oz σ'.h rb bc n o c' (wL (fun p c=>gy p.2 (lJ e m p) c) (zF (flat e.ps) fun i=>Aq e m i) (e.ps.take j))∧(∀ c,Zk D (dI e.rk+DL (e.ps.take j)) (wL (fun p c=>gy p.2 (lJ e m p) c) (zF (flat e.ps) fun i=>Aq e m i) (e.ps.take j) c))
  ∧ σ'.h b=some ⟨dO n fun i=>Aq e m i,none⟩∧σ'.h (σ.ah+1+1)=some ⟨[.bool (rn 0),.str (rs 0),.str (rd 0)],none⟩∧Fr σ σ') e.ps.length ?_ ?_
 ·refine ⟨0,jb,jb,?_⟩
  simp (maxSteps:=9^9) (disch:=try exact jz) only [go_sem,z3,true_and,List.take_zero,UD]
  refine ⟨hr3,fun c=>?_,h2,hx2,hF3⟩
  unfold zF
  split
  ·split
   ·exact Zk.zero
   ·exact (hZ _).mono jb
  ·exact Zk.zero
 ·rintro q tm σ' ⟨j,rfl,hj,t5,t6,t7,t17,oK,t19,hr,hZ',hg,Qy,hf'⟩
  simp (maxSteps:=9^9) (disch:=try exact jz) only [go_sem,z3,t5,t6,t7,t17,oK,t19]
  refine aI (fun hlt=>?_) (fun hlt=>?_)
  ·obtain ⟨b2,o2,c2,rfl,hld⟩:=hG.pos jb
   have hpj:=iE hlt
   have Ic:=hP j hlt
   have hld:=hf'.ld hW (hld j hlt)
   have hb2:=hf'.wf.eU hld
   have hns:=UA (e.ps.take j) (ix e.ps j)
   have hac:=Oc (fun p c=>gy p.2 (lJ e m p) c) (zF (flat e.ps) fun i=>Aq e m i) (e.ps.take j) (ix e.ps j)
   rw [← take_snoc hlt] at hns hac
   have hnt:=UC e.ps (j+1)
   have hpm:=he.pm _ hpj
   have hpk:=he.pk _ hpj
   have hmp:=hm.ps _ hpj
   have hsz:=he.sz
   have hpl:=he.pl
   generalize ix e.ps j=p at *
   simp (maxSteps:=9^9) (disch:=try exact jz) only [go_sem,z3,t5,t6,t7,t17,oK,t19,hld,Ic.1.kn,Ic.2.kn]
   have h1m:=show p.1.length+1≤1000001 by omega
   have hA:=Nat.le_trans (Nat.mul_le_mul_left (dI e.rk) h1m) (Nat.le_trans (Nat.le_add_right _ _) hsz)
   refine aO.st (Fr σ') (by have hW':=hf'.wf;exact fr) fun uG=>?_
   refine (Qu uG.wf p.1 (Gm j) (Gl j) (.sl b 0 n (.ex n)) (fun i=>Aq e m i) (Ic.1.fr hW (hf'.trans uG)) (Qx (uG.get hf'.wf hg) rfl) hpm.2 hpm.1 hD (fun i _=>hZ i) hA).mono ?_
   rintro _ σ4 ⟨rfl,hf4⟩
   have hq9:σ4.h σ'.ah=some ⟨[Gm j,Gl j],none⟩:=hf4.get uG.wf (aA _ _ _)
   have jX:=uG.trans hf4
   simp (maxSteps:=9^9) (disch:=try exact jz) only [go_sem,z3,t5,t6,t7,t17,oK,t19,au hq9,Ic.2.kn]
   refine (akx hW (hf'.trans jX) jb jb (hr.fr hf'.wf jX) p.2 (Gl j) Ic.2 (lJ e m p) hD hpk.1 hmp.1 hmp.2 hZ' (Nat.le_trans jb hsz) hpk.2).mono ?_
   rintro _ σ5 ⟨hr5,hZ5,hf5⟩
   have rX:=(jX.ex [rb,bc]).trans hf5
   rw [hac] at hr5
   simp (maxSteps:=9^9) (disch:=try exact jz) only [go_sem,z3,t5,t6,t7,t17,oK,t19]
   have ani : ∀ c,wL (fun p c=>gy p.2 (lJ e m p) c) (zF (flat e.ps) fun i=>Aq e m i) (e.ps.take j) c+gy p.2 (lJ e m p) c=wL (fun p c=>gy p.2 (lJ e m p) c) (zF (flat e.ps) fun i=>Aq e m i) (e.ps.take (j+1)) c:=fun c=>congrFun hac c
   refine ⟨e.ps.length - (j+1),jb,j+1,rfl,jb,rfl,hr5,fun c=>?_,rX.get hf'.wf (by simp;omega) hg,rX.get hf'.wf (by simp;omega) Qy,rX.to hf' (by simp;omega)⟩
   rw [← ani]
   exact (hZ5 c).mono jb
  ·have:j=e.ps.length:=jb
   subst this
   rw [List.take_length] at hr
   have hrr:=hr.r
   simp (maxSteps:=9^9) (disch:=try exact jz) only [go_sem,z3,t5,t6,t7,t17,oK,t19,au hrr,aX Qy,Qy]
   have e1:wL (fun p c=>gy p.2 (lJ e m p) c) (zF (flat e.ps) fun i=>Aq e m i) e.ps (-1)=Zc e m:=by
    unfold wL Zc
    rw [Kz];grind
   have e2:(dO n fun i:Nat=>wL (fun p c=>gy p.2 (lJ e m p) c) (zF (flat e.ps) fun i=>Aq e m i) e.ps i)=dO n (sK e m):=by
    refine gB fun i _=>?_
    unfold wL sK
    rw [Qw,Gh]
   have hrc:=hr.c
   rw [e2] at hrc
   rw [e1]
   have hlx:=hf'.wf.lt Qy
   refine ⟨⟨_,_,_,rfl,?_,hr.pl,hr.rd,jb,hf'.wf.lt hrc⟩,?_⟩
   ·rw [ak _ _ _ _ jb];exact hrc
   ·exact fr
theorem afo {σ:St} (hW:WF σ) {n:Nat} {rv pv:B} (t:Rat) (e:iq) (hL:Ky σ.h rv pv e) (m:Rat) {D:Nat} (hD:Ae D) (he:EOk D n e) (hm:MOk D e m) (hR:ROk D e m) :
  aO EN 83 [.agg (jD n rv pv t),.agg [.bool (rn m),.str (rs m),.str (rd m)]] σ fun r σ'=>(∃ bc c o,r = .cZ (.c (.sl bc 0 n c)) (.cZ (.agg [.bool (rn (Qm e m)),.str (rs (Qm e m)),.str (rd (Qm e m))]) .tnil)∧σ'.h bc=some ⟨dO n (yx e m),o⟩∧plo o=true∧rdo o=true∧σ.ah≤bc∧bc<σ'.ah)∧Fr σ σ':=by
 refine bF (jf.o _ _) jf.h ?_
 unfold jf jD
 dsimp only
 simp (maxSteps:=9^9) (disch:=try exact jz) only [go_sem,z3,hL.rk.kn,hL.pkn]
 refine aO.st (Fr σ) (fr) fun hF=>?_
 have hnp:dI e.rk≤256 ^ uK:=Nat.le_trans jb he.sz
 refine (Qv hF.wf t e (hL.fr hW hF) m hD he.hn he.rk hm.rk hm.hm hnp he.rk0).mono ?_
 rintro _ σ2 ⟨⟨b,rfl,h2,hb⟩,hZ,hf2⟩
 have hF2:=hF.trans hf2
 have hb:σ.ah+1+1+1≤b:=hb
 have hl2:σ.ah+1+1+1≤σ2.ah:=hf2.le
 have hx0:σ2.h σ.ah=some ⟨[.int .i64 (.ofNat n),rv,pv,.bool (rn t),.str (rs t),.str (rd t)],none⟩:=hf2.get hF.wf ((ak _ _ _ _ jb).trans ((ak _ _ _ _ jb).trans (aA _ _ _)))
 have hx1:σ2.h (σ.ah+1)=some ⟨[.bool (rn m),.str (rs m),.str (rd m)],none⟩:=hf2.get hF.wf ((ak _ _ _ _ jb).trans (aA _ _ _))
 have hx2:σ2.h (σ.ah+1+1)=some ⟨[.bool (rn 0),.str (rs 0),.str (rd 0)],none⟩:=hf2.get hF.wf (aA _ _ _)
 have hbl:=hf2.wf.lt h2
 simp (maxSteps:=9^9) (disch:=try exact jz) only [go_sem,z3,au hx0,au hx1,hL.rk.kn,hL.pkn]
 refine (ajc hf2.wf t e (hL.fr hW hF2) m hD he.hn he.rk hR.rk hm.hm hnp).mono ?_
 rintro _ σ6 ⟨⟨b6,rfl,h6,hb6⟩,hZ6,lT⟩
 have rX:=hF2.trans lT
 have hl6:=lT.le
 have hx0:=lT.get hf2.wf hx0
 have hx2:=lT.get hf2.wf hx2
 have h2:=lT.get hf2.wf h2
 have aqu:=lT.wf.lt h6
 simp (maxSteps:=9^9) (disch:=try exact jz) only [go_sem,z3,au hx0,hL.rk.kn,hL.pkn]
 refine (afn lT.wf t e (hL.fr hW rX) h6 he.hn he.pl he.pm).mono ?_
 rintro _ σ3 ⟨⟨rb,bc,o,c',rfl,hr3,hrb,hbc⟩,hf3⟩
 have hF3:=rX.trans hf3
 have hl3:=hf3.le
 have hx0:=hf3.get lT.wf hx0
 have hx2:=hf3.get lT.wf hx2
 have h2:=hf3.get lT.wf h2
 have h6:=hf3.get lT.wf h6
 obtain ⟨-,Gm,Gl,hG,hP⟩:=hL
 have hlen:=hG.len
 simp (maxSteps:=9^9) (disch:=try exact jz) only [go_sem,z3,au hx0,hG.kn,hlen]
 refine aN (fun q tm σ'=>∃ j,q=e.ps.length - j∧j≤e.ps.length∧Tr.aj tm 5 = .c (.ptr (σ.ah+1+1) 0)∧Tr.aj tm 6 = .c (.sl b 0 n (.ex n))∧Tr.aj tm 7 = .c (.sl b6 0 n (.ex n))∧Tr.aj tm 8 = .c (.ptr rb 0)∧Tr.aj tm 21 = .c pv∧Tr.aj tm 22 = .c (.int .i64 (.ofNat e.ps.length))∧Tr.aj tm 23 = .c (.int .i64 (.ofNat j))
  ∧ oz σ'.h rb bc n o c' (wL (fun p c=>jV p.2 (lJ e m p) (wU e m p) c) (zF (flat e.ps) fun i=>rts e m i) (e.ps.take j))∧(∀ c,Zk D (dI e.rk+DL (e.ps.take j)) (wL (fun p c=>jV p.2 (lJ e m p) (wU e m p) c) (zF (flat e.ps) fun i=>rts e m i) (e.ps.take j) c))
  ∧ σ'.h b=some ⟨dO n fun i=>Aq e m i,none⟩∧σ'.h b6=some ⟨dO n fun i=>rts e m i,none⟩∧σ'.h (σ.ah+1+1)=some ⟨[.bool (rn 0),.str (rs 0),.str (rd 0)],none⟩∧Fr σ σ') e.ps.length ?_ ?_
 ·refine ⟨0,jb,jb,?_⟩
  simp (maxSteps:=9^9) (disch:=try exact jz) only [go_sem,z3,true_and,List.take_zero,UD]
  refine ⟨hr3,fun c=>?_,h2,h6,hx2,hF3⟩
  unfold zF
  split
  ·split
   ·exact Zk.zero
   ·exact (hZ6 _).mono jb
  ·exact Zk.zero
 ·rintro q tm σ' ⟨j,rfl,hj,t5,t6,t7,t8,t21,t22,t23,hr,hZ',hg,hg6,Qy,hf'⟩
  simp (maxSteps:=9^9) (disch:=try exact jz) only [go_sem,z3,t5,t6,t7,t8,t21,t22,t23]
  refine aI (fun hlt=>?_) (fun hlt=>?_)
  ·obtain ⟨b2,o2,c2,rfl,hld⟩:=hG.pos jb
   have hpj:=iE hlt
   have Ic:=hP j hlt
   have hld:=hf'.ld hW (hld j hlt)
   have hb2:=hf'.wf.eU hld
   have hns:=UA (e.ps.take j) (ix e.ps j)
   have hac:=Oc (fun p c=>jV p.2 (lJ e m p) (wU e m p) c) (zF (flat e.ps) fun i=>rts e m i) (e.ps.take j) (ix e.ps j)
   rw [← take_snoc hlt] at hns hac
   have hnt:=UC e.ps (j+1)
   have hpm:=he.pm _ hpj
   have hpk:=he.pk _ hpj
   have hmp:=hm.ps _ hpj
   have hrp:=hR.ps _ hpj
   have hsz:=he.sz
   have hpl:=he.pl
   generalize ix e.ps j=p at *
   simp (maxSteps:=9^9) (disch:=try exact jz) only [go_sem,z3,t5,t6,t7,t8,t21,t22,t23,hld,Ic.1.kn,Ic.2.kn]
   have h1m:=show p.1.length+1≤1000001 by omega
   have hA:=Nat.le_trans (Nat.mul_le_mul_left (dI e.rk) h1m) (Nat.le_trans (Nat.le_add_right _ _) hsz)
   refine aO.st (Fr σ') (by have hW':=hf'.wf;exact fr) fun uG=>?_
   refine (Qu uG.wf p.1 (Gm j) (Gl j) (.sl b 0 n (.ex n)) (fun i=>Aq e m i) (Ic.1.fr hW (hf'.trans uG)) (Qx (uG.get hf'.wf hg) rfl) hpm.2 hpm.1 hD (fun i _=>hZ i) hA).mono ?_
   rintro _ σ4 ⟨rfl,hf4⟩
   have hq9:σ4.h σ'.ah=some ⟨[Gm j,Gl j],none⟩:=hf4.get uG.wf (aA _ _ _)
   have jX:=uG.trans hf4
   simp (maxSteps:=9^9) (disch:=try exact jz) only [go_sem,z3,t5,t6,t7,t8,t21,t22,t23,au hq9,Ic.2.kn,Ic.1.kn]
   refine (Qu hf4.wf p.1 (Gm j) (Gl j) (.sl b6 0 n (.ex n)) (fun i=>rts e m i) (Ic.1.fr hW (hf'.trans jX)) (Qx (jX.get hf'.wf hg6) rfl) hpm.2 hpm.1 hD (fun i _=>hZ6 i) hA).mono ?_
   rintro _ σ8 ⟨rfl,Gy⟩
   have hq9:=Gy.get hf4.wf hq9
   have hF8:=jX.trans Gy
   simp (maxSteps:=9^9) (disch:=try exact jz) only [go_sem,z3,t5,t6,t7,t8,t21,t22,t23,au hq9,Ic.2.kn,Ic.1.kn]
   refine (Zt hW (hf'.trans hF8) jb jb (hr.fr hf'.wf hF8) p.2 (Gl j) Ic.2 (lJ e m p) (wU e m p) hD hpk.1 hrp.1 hmp.2 hZ' (Nat.le_trans jb hsz)).mono ?_
   rintro _ σ5 ⟨hr5,hZ5,hf5⟩
   have rX:=(hF8.ex [rb,bc]).trans hf5
   rw [hac] at hr5
   simp (maxSteps:=9^9) (disch:=try exact jz) only [go_sem,z3,t5,t6,t7,t8,t21,t22,t23]
   have ani : ∀ c,wL (fun p c=>jV p.2 (lJ e m p) (wU e m p) c) (zF (flat e.ps) fun i=>rts e m i) (e.ps.take j) c+jV p.2 (lJ e m p) (wU e m p) c=wL (fun p c=>jV p.2 (lJ e m p) (wU e m p) c) (zF (flat e.ps) fun i=>rts e m i) (e.ps.take (j+1)) c:=fun c=>congrFun hac c
   refine ⟨e.ps.length - (j+1),jb,j+1,rfl,jb,rfl,hr5,fun c=>?_,rX.get hf'.wf (by simp;omega) hg,rX.get hf'.wf (by simp;omega) hg6,rX.get hf'.wf (by simp;omega) Qy,rX.to hf' (by simp;omega)⟩
   rw [← ani]
   exact (hZ5 c).mono jb
  ·have:j=e.ps.length:=jb
   subst this
   rw [List.take_length] at hr
   have hrr:=hr.r
   simp (maxSteps:=9^9) (disch:=try exact jz) only [go_sem,z3,t5,t6,t7,t8,t21,t22,t23,au hrr,aX Qy,Qy]
   have e1:wL (fun p c=>jV p.2 (lJ e m p) (wU e m p) c) (zF (flat e.ps) fun i=>rts e m i) e.ps (-1)=Qm e m:=by
    unfold wL Qm
    rw [Kz];grind
   have e2:(dO n fun i:Nat=>wL (fun p c=>jV p.2 (lJ e m p) (wU e m p) c) (zF (flat e.ps) fun i=>rts e m i) e.ps i)=dO n (yx e m):=by
    refine gB fun i _=>?_
    unfold wL yx
    rw [Qw,Gh]
   have hrc:=hr.c
   rw [e2] at hrc
   rw [e1]
   have hlx:=hf'.wf.lt Qy
   refine ⟨⟨_,_,_,rfl,?_,hr.pl,hr.rd,jb,hf'.wf.lt hrc⟩,?_⟩
   ·rw [ak _ _ _ _ jb];exact hrc
   ·exact fr
end Go.Proofs.Xe
