/- dQ.adu, in the dR words. -/
import Derived.Test.YtjonjhcaniinaaaGreatDoorZ32
set_option linter.unusedSimpArgs false
set_option linter.unusedVariables false
set_option maxHeartbeats 8000000
namespace Go.Proofs.Xe
open Go.RowKit Go.Proofs.Ins
def y8 (n i:Nat) (x:C5):Prop:=(x.h = -1∨∃ j:Nat,j<n∧j≠i∧x.h=(j:Int))∧(∃ r:Nat,r≤7∧x.r=(r:Int))∧∃ v,x.a=qY (amt v)
def BK (nc:Nat) (al:List eU):Prop:=al.length≤2∧∀ j,j<al.length→(ix al j).length=3∧∀ t,t<3→y7 nc (al.take j) (ix (ix al j) t)∧(ix (ix al j) t).length≤nc+1
section
variable {h h' : Tr Bk} {dv:B} {n eb:Nat} {m:Nat→Rat} {cl:Nat→List C5} {bs:Nat→Nat} {A:Nat→B} {al:Nat→List eU} {dl:List nR} {lo hi:Nat}
theorem akH {i nx:Nat} (hi:i<n) (x:C5):rU (bC n (nJ m cl bs A)) (i*5+3) [.sl nx 0 ((cl i).length+1) .opn]=some (bC n (nJ m (aI cl i (cl i ++ [x])) (aI bs i nx) A)):=by
 rw [xE (e:=5) (fun _=>rfl) hi (by simp)]
 show some _=some _
 congr 1
 refine dB fun j hj=>?_
 unfold iT
 by_cases e:j=i
 ·subst e
  rw [if_pos rfl]
  unfold nJ
  rw [aG,aG,ig (l:=cl j ++ [x]) (by simp),List.length_append];rfl
 ·rw [if_neg e]
  unfold nJ
  rw [aH _ _ _ _ e,aH _ _ _ _ e]
theorem agS {i:Nat} {rv:B} (hi:i<n):rU (bC n (nJ m cl bs A)) (i*5+4) [rv]=some (bC n (nJ m cl bs (aI A i rv))):=by
 rw [xE (e:=5) (fun _=>rfl) hi (by simp)]
 show some _=some _
 congr 1
 refine dB fun j hj=>?_
 unfold iT
 by_cases e:j=i
 ·subst e
  rw [if_pos rfl]
  unfold nJ
  rw [aG];rfl
 ·rw [if_neg e]
  unfold nJ
  rw [aH _ _ _ _ e]
theorem ou.push (ho:ou h dv n eb m cl bs A al dl lo hi) {i nx:Nat} (hi' : i<n) (x:C5) (hnx:hi≤nx) {hi2:Nat} (h2:nx<hi2) (he:h' eb=some ⟨bC n (nJ m (aI cl i (cl i ++ [x])) (aI bs i nx) A),some (5,59)⟩)
  (hx:h' nx=some ⟨bC (cl i).length (clC (cl i)) ++ c5B x,some (5,64)⟩) (hb : ∀ b,lo≤b→b<hi→b≠eb→(0<(cl i).length→b≠bs i)→h' b=h b):ou h' dv n eb m (aI cl i (cl i ++ [x])) (aI bs i nx) A al dl lo hi2:=by
 have hq : ∀ b,Qt lo hi eb n cl bs b→Qt lo hi2 eb n (aI cl i (cl i ++ [x])) (aI bs i nx) b:=fun b q=>⟨q.1,by have:=q.2.1;omega,q.2.2.1,fun j hj hp=>by
  by_cases e:j=i
  ·subst e;rw [aG];have:=q.2.1;omega
  ·rw [aH _ _ _ _ e] at hp ⊢;exact q.2.2.2 j hj hp⟩
 have hk : ∀ b,Qt lo hi eb n cl bs b→h' b=h b:=fun b q=>hb b q.1 q.2.1 q.2.2.1 fun hp=>q.2.2.2 i hi' hp
 have hlo:=ho.elo
 have hhi:=ho.ehi
 refine ⟨he,ho.elo,by omega,fun j hj hp=>?_,fun a b ha hb' pa pb e=>?_,fun j hj=>(ho.a j hj).keep hk hq,ho.d.keep hk hq⟩
 ·by_cases e:j=i
  ·subst e
   rw [aG,aG,List.length_append,List.length_singleton]
   refine ⟨?_,by omega,h2,by omega⟩
   rw [hx,jg]
   congr 2
   refine dB fun k hk=>?_
   unfold iT clC
   split
   ·next e=>rw [e,fA]
   ·rw [eY _ _ (by omega)]
  ·rw [aH _ _ _ _ e] at hp ⊢
   rw [aH _ _ _ _ e]
   obtain ⟨k1,k2,k3,k4⟩:=ho.c j hj hp
   exact ⟨by rw [hb _ k2 k3 k4 fun hp2 e2=>e (ho.inj j i hj hi' hp hp2 e2)];exact k1,k2,by omega,k4⟩
 ·by_cases e1:a=i
  ·by_cases e2:b=i
   ·rw [e1,e2]
   ·rw [e1,aG,aH _ _ _ _ e2] at e
    rw [aH _ _ _ _ e2] at pb
    have:=(ho.c b hb' pb).2.2.1
    omega
  ·by_cases e2:b=i
   ·rw [e2,aG,aH _ _ _ _ e1] at e
    rw [aH _ _ _ _ e1] at pa
    have:=(ho.c a ha pa).2.2.1
    omega
   ·rw [aH _ _ _ _ e1] at pa
    rw [aH _ _ _ _ e2] at pb
    rw [aH _ _ _ _ e1,aH _ _ _ _ e2] at e
    exact ho.inj a b ha hb' pa pb e
theorem ou.aoP (ho:ou h dv n eb m cl bs A al dl lo hi) {i:Nat} (hi' : i<n) {rv:B} {l:List eU} {hi2:Nat} (h2:hi≤hi2) (he:h' eb=some ⟨bC n (nJ m cl bs (aI A i rv)),some (5,59)⟩)
  (hb : ∀ b,lo≤b→b<hi→b≠eb→h' b=h b) (hr:gu (Qt lo hi2 eb n cl bs) h' rv l):ou h' dv n eb m cl bs (aI A i rv) (aI al i l) dl lo hi2:=by
 have hq : ∀ b,Qt lo hi eb n cl bs b→Qt lo hi2 eb n cl bs b:=fun b q=>⟨q.1,by have:=q.2.1;omega,q.2.2⟩
 have hk : ∀ b,Qt lo hi eb n cl bs b→h' b=h b:=fun b q=>hb b q.1 q.2.1 q.2.2.1
 refine ⟨he,ho.elo,by have:=ho.ehi;omega,fun j hj hp=>?_,ho.inj,fun j hj=>?_,ho.d.keep hk hq⟩
 ·obtain ⟨k1,k2,k3,k4⟩:=ho.c j hj hp
  exact ⟨by rw [hb _ k2 k3 k4];exact k1,k2,by omega,k4⟩
 ·by_cases e:j=i
  ·subst e;rw [aG,aG];exact hr
  ·rw [aH _ _ _ _ e,aH _ _ _ _ e];exact (ho.a j hj).keep hk hq
theorem ou.aoQ (ho:ou h dv n eb m cl bs A al dl lo hi) {Vd : B} {l:List nR} {hi2:Nat} (h2:hi≤hi2) (hb : ∀ b,lo≤b→b<hi→h' b=h b) (hr:iE (Qt lo hi2 eb n cl bs) h' Vd l):ou h' Vd n eb m cl bs A al l lo hi2:=by
 have:=ho.mono hb h2
 exact ⟨this.e,this.elo,this.ehi,this.c,this.inj,this.a,hr⟩
theorem gu.none (p:Nat→Prop) (h:Tr Bk):gu p h .aW []:=⟨fun _=>.aW,.inl ⟨rfl,rfl⟩,fun i hi=>by simp at hi⟩
theorem iE.none (p:Nat→Prop) (h:Tr Bk):iE p h .aW []:=⟨fun _=>.aW,.inl ⟨rfl,rfl⟩,fun i hi=>by simp at hi⟩
theorem ou.start (he:h eb=some ⟨bC n (nJ m (fun _=>[]) (fun _=>0) (fun _=>.aW)),some (5,59)⟩) (h1:lo≤eb) (h2:eb<hi):ou h .aW n eb m (fun _=>[]) (fun _=>0) (fun _=>.aW) (fun _=>[]) [] lo hi :=
 ⟨he,h1,h2,fun i _ hp=>by simp at hp,fun i j _ _ hp=>by simp at hp,fun _ _=>gu.none _ _,iE.none _ _⟩
theorem agT (l:List C5):(bC l.length (clC l)).take (l.length*5)=bC l.length (clC l):=uJ fun _=>rfl
theorem akI (l:List C5):l.length*5≤(bC l.length (clC l)).length:=by rw [nP (e:=5) fun _=>rfl];exact Nat.le_refl _
theorem y8.snoc {i:Nat} {l:List C5} {x:C5} (hl : ∀ k,k<l.length→y8 n i (ix l k)) (hx:y8 n i x) : ∀ k,k<(l ++ [x]).length→y8 n i (ix (l ++ [x]) k):=fun k hk=>by
 rw [List.length_append,List.length_singleton] at hk
 by_cases e:k=l.length
 ·rw [e,fA];exact hx
 ·rw [eY _ _ (by omega)];exact hl k (by omega)
end
structure GI (σ σ' : St) (t11 n eb:Nat) (dv:B) (mm:Nat→Rat) (cl:Nat→List C5) (bs:Nat→Nat) (A:Nat→B) (al:Nat→List eU) (dl:List nR):Prop where
 b:σ'.h t11=some ⟨[.sl eb 0 n .opn,dv],none⟩
 g:ou σ'.h dv n eb mm cl bs A al dl (t11+1) σ'.ah
 m : ∀ i,i<n→∃ v,mm i=amt v
 c : ∀ i,i<n→(cl i).length≤6∧∀ k,k<(cl i).length→y8 n i (ix (cl i) k)
 a : ∀ i,i<n→BK (cl i).length (al i)
 d:dl.length≤3∧∀ j,j<dl.length→(ix dl j).l.length≤4∧∃ v,(ix dl j).w=qY (amt v)
 nx:t11+1≤σ'.ah
 lo:σ.ah≤t11
 fr:Fr σ σ'
 dg : ∀ j,j<dl.length→LGf (iC n mm cl al) (dl.take j) (ix dl j).l
theorem GI.step {σ σ' σ3:St} {t11 n eb:Nat} {dv:B} {m:Nat→Rat} {cl:Nat→List C5} {bs:Nat→Nat} {A:Nat→B} {al:Nat→List eU} {dl:List nR} (hI:GI σ σ' t11 n eb dv m cl bs A al dl) (hf:Fr σ' σ3):GI σ σ3 t11 n eb dv m cl bs A al dl:=by
 have hn:=hI.nx
 have hle:=hf.le
 exact ⟨by rw [hf.old _ (by omega)];exact hI.b,hI.g.mono (fun b _ hb=>hf.old b hb) hle,hI.m,hI.c,hI.a,hI.d,by omega,hI.lo,hI.fr.trans hf,hI.dg⟩
theorem GI.push {σ σ' : St} {t11 n eb:Nat} {dv:B} {m:Nat→Rat} {cl:Nat→List C5} {bs:Nat→Nat} (hI:GI σ σ' t11 n eb dv m cl bs (fun _=>.aW) (fun _=>[]) []) {i nx n' : Nat} {x:C5} {h' : Tr Bk} (hi:i<n) (hl:(cl i).length≤5) (hx:y8 n i x) (hb:h' t11=some ⟨[.sl eb 0 n .opn,dv],none⟩)
  (he:h' eb=some ⟨bC n (nJ m (aI cl i (cl i ++ [x])) (aI bs i nx) (fun _=>.aW)),some (5,59)⟩) (hc:h' nx=some ⟨bC (cl i).length (clC (cl i)) ++ c5B x,some (5,64)⟩)
  (ho : ∀ b,t11+1≤b→b<σ'.ah→b≠eb→(0<(cl i).length→b≠bs i)→h' b=σ'.h b) (hn:σ'.ah≤nx) (hn' : nx<n') (hf:Fr σ ⟨h',n'⟩):GI σ ⟨h',n'⟩ t11 n eb dv m (aI cl i (cl i ++ [x])) (aI bs i nx) (fun _=>.aW) (fun _=>[]) []:=by
 have hn0:=hI.nx
 refine ⟨hb,hI.g.push hi x hn hn' he hc ho,hI.m,fun j hj=>?_,fun j hj=>⟨Nat.zero_le _,fun k hk=>by simp at hk⟩,hI.d,by show _≤n';omega,hI.lo,hf,fun j hj=>by simp at hj⟩
 by_cases e:j=i
 ·subst e
  rw [aG,List.length_append,List.length_singleton]
  refine ⟨by omega,fun k hk=>?_⟩
  exact y8.snoc (hI.c j hj).2 hx k (by rw [List.length_append,List.length_singleton];exact hk)
 ·rw [aH _ _ _ _ e];exact hI.c j hj
theorem BK.len {nc:Nat} {al:List eU} (h:BK nc al) (hn:nc≤10):akr al:=⟨by have:=h.1;omega,fun j hj=>by
 obtain ⟨h1,h2⟩:=h.2 j hj
 exact ⟨by omega,fun t ht=>by have:=(h2 t (by omega)).2;omega⟩⟩
theorem BK.snoc {nc:Nat} {al:List eU} {a:eU} (h:BK nc al) (h1:al.length≤1) (ha:a.length=3) (hg : ∀ t,t<3→y7 nc al (ix a t)∧(ix a t).length≤nc+1):BK nc (al ++ [a]):=by
 refine ⟨by simp;omega,fun j hj=>?_⟩
 rw [List.length_append,List.length_singleton] at hj
 by_cases e:j=al.length
 ·subst e
  rw [fA,List.take_left']
  ·exact ⟨ha,hg⟩
  ·rfl
 ·rw [eY _ _ (by omega),List.take_append_of_le_length (by omega)]
  exact h.2 j (by omega)
theorem GI.agr {σ σ' σ3:St} {t11 n eb:Nat} {dv:B} {m:Nat→Rat} {cl:Nat→List C5} {bs:Nat→Nat} {A:Nat→B} {al:Nat→List eU} {dl:List nR} (hI:GI σ σ' t11 n eb dv m cl bs A al dl) (hf3:Fr σ' σ3) (h0:dl=[]) {i n' : Nat} {rv:B} {a:eU} {h' : Tr Bk} (hi:i<n) (h1:(al i).length≤1)
  (hr:gu (fun b=>Qt (t11+1) σ'.ah eb n cl bs b∨σ'.ah≤b∧b<σ3.ah) σ3.h rv (al i ++ [a])) (ha:a.length=3) (hg : ∀ t,t<3→y7 (cl i).length (al i) (ix a t)∧(ix a t).length≤(cl i).length+1)
  (hb:h' t11=some ⟨[.sl eb 0 n .opn,dv],none⟩) (he:h' eb=some ⟨bC n (nJ m cl bs (aI A i rv)),some (5,59)⟩) (ho : ∀ b,t11+1≤b→b<σ3.ah→b≠eb→h' b=σ3.h b) (hn:σ3.ah≤n') (hf:Fr σ ⟨h',n'⟩):GI σ ⟨h',n'⟩ t11 n eb dv m cl bs (aI A i rv) (aI al i (al i ++ [a])) dl:=by
 have hn0:=hI.nx
 have hle:=hf3.le
 have akJ:=hI.g.ehi
 refine ⟨hb,(hI.g.mono (fun b _ hb=>hf3.old b hb) hle).aoP hi hn he (fun b b1 b2 b3=>ho b b1 b2 b3) (hr.keep (fun b hq=>?_) fun b hq=>?_),hI.m,hI.c,fun j hj=>?_,hI.d,by show _≤n';omega,hI.lo,hf,fun j hj=>by rw [h0] at hj;simp at hj⟩
 ·rcases hq with hq|hq
  ·exact ho b hq.1 (by have:=hq.2.1;omega) hq.2.2.1
  ·exact ho b (by omega) hq.2 (by omega)
 ·rcases hq with hq|hq
  ·exact ⟨hq.1,show b<n' by have:=hq.2.1;omega,hq.2.2⟩
  ·obtain ⟨h8,h9⟩:=hq
   exact ⟨by omega,show b<n' by omega,by omega,fun j hj hp=>by have:=(hI.g.c j hj hp).2.2.1;omega⟩
 ·by_cases e:j=i
  ·subst e;rw [aG];exact (hI.a j hj).snoc h1 ha hg
  ·rw [aH _ _ _ _ e];exact hI.a j hj
theorem GI.dbt {σ σ' σ3:St} {t11 n eb:Nat} {dv:B} {m:Nat→Rat} {cl:Nat→List C5} {bs:Nat→Nat} {A:Nat→B} {al:Nat→List eU} {dl:List nR} (hI:GI σ σ' t11 n eb dv m cl bs A al dl) (hf3:Fr σ' σ3) {n' : Nat} {rv:B} {d:nR} {h' : Tr Bk} (h1:dl.length≤2)
  (hr:iE (fun b=>Qt (t11+1) σ'.ah eb n cl bs b∨σ'.ah≤b∧b<σ3.ah) σ3.h rv (dl ++ [d])) (hd:d.l.length≤4∧∃ v,d.w=qY (amt v)) (hdg:LGf (iC n m cl al) dl d.l)
  (hb:h' t11=some ⟨[.sl eb 0 n .opn,rv],none⟩) (ho : ∀ b,t11+1≤b→b<σ3.ah→h' b=σ3.h b) (hn:σ3.ah≤n') (hf:Fr σ ⟨h',n'⟩):GI σ ⟨h',n'⟩ t11 n eb rv m cl bs A al (dl ++ [d]):=by
 have hn0:=hI.nx
 have hle:=hf3.le
 have akJ:=hI.g.ehi
 refine ⟨hb,(hI.g.mono (fun b _ hb=>hf3.old b hb) hle).aoQ hn (fun b b1 b2=>ho b b1 b2) (hr.keep (fun b hq=>?_) fun b hq=>?_),hI.m,hI.c,hI.a,⟨by simp;omega,fun j hj=>?_⟩,by show _≤n';omega,hI.lo,hf,fun j hj=>?_⟩
 ·rcases hq with hq|hq
  ·exact ho b hq.1 (by have:=hq.2.1;omega)
  ·exact ho b (by omega) hq.2
 ·rcases hq with hq|hq
  ·exact ⟨hq.1,show b<n' by have:=hq.2.1;omega,hq.2.2⟩
  ·obtain ⟨h8,h9⟩:=hq
   exact ⟨by omega,show b<n' by omega,by omega,fun j hj hp=>by have:=(hI.g.c j hj hp).2.2.1;omega⟩
 ·rw [List.length_append,List.length_singleton] at hj
  by_cases e:j=dl.length
  ·rw [e,fA];exact hd
  ·rw [eY _ _ (by omega)];exact hI.d.2 j (by omega)
 ·rw [List.length_append,List.length_singleton] at hj
  by_cases e:j=dl.length
  ·rw [e,fA,List.take_left' rfl];exact hdg
  ·rw [eY _ _ (by omega),List.take_append_of_le_length (by omega)];exact hI.dg j (by omega)
theorem I5:amt 0=0:=by
 rw [V3 (by decide)]
 show ((0:Int):Rat)/((1:Int):Rat)=0
 grind
structure G0 (σ σ' : St) (t11 i:Nat) (ev:B) (m:Nat→Rat):Prop where
 b:σ'.h t11=some ⟨[ev,.aW],none⟩
 e:(i=0∧ev = .aW)∨∃ eb,ev = .sl eb 0 i .opn∧0<i∧σ'.h eb=some ⟨bC i (nJ m (fun _=>[]) (fun _=>0) (fun _=>.aW)),some (5,59)⟩∧t11+1≤eb∧eb<σ'.ah
 m : ∀ j,j<i→∃ v,m j=amt v
 nx:t11+1≤σ'.ah
 fr:Fr σ σ'
theorem adv (i:Nat) (m:Nat→Rat) (cl:Nat→List C5) (bs:Nat→Nat) (A:Nat→B):(bC i (nJ m cl bs A)).take (i*5)=bC i (nJ m cl bs A):=uJ fun _=>rfl
theorem agU (i:Nat) (m:Nat→Rat) (cl:Nat→List C5) (bs:Nat→Nat) (A:Nat→B):i*5≤(bC i (nJ m cl bs A)).length:=by rw [nP (e:=5) fun _=>rfl];exact Nat.le_refl _
theorem G0.push {σ σ' : St} {t11 i:Nat} {ev:B} {m:Nat→Rat} (hG:G0 σ σ' t11 i ev m) {q:Rat} (hq : ∃ v,q=amt v) {h' : Tr Bk} {nx n' : Nat} (hb:h' t11=some ⟨[.sl nx 0 (i+1) .opn,.aW],none⟩)
  (hx:h' nx=some ⟨bC i (nJ m (fun _=>[]) (fun _=>0) (fun _=>.aW)) ++ [.bool (rn q),.str (rs q),.str (rd q),.aW,.aW],some (5,59)⟩) (hn:σ'.ah≤nx) (hn' : nx<n') (hf:Fr σ ⟨h',n'⟩):G0 σ ⟨h',n'⟩ t11 (i+1) (.sl nx 0 (i+1) .opn) (aI m i q):=by
 have hn0:=hG.nx
 refine ⟨hb,.inr ⟨nx,rfl,by omega,?_,by omega,hn'⟩,fun j hj=>?_,by show _≤n';omega,hf⟩
 ·show h' nx=_
  rw [hx,jg]
  congr 2
  refine dB fun j hj=>?_
  unfold iT nJ
  by_cases e:j=i
  ·rw [if_pos e,e,aG];rfl
  ·rw [if_neg e,aH _ _ _ _ e]
 ·unfold aI
  split
  ·exact hq
  ·exact hG.m j (by omega)
set_option maxRecDepth 10000 in
theorem agV {σ:St} (hW:WF σ) {nm Q8 nl np nd:Nat} (hnm:nm≤255) {cv lv pv dv:B} (M:Nat→Nat) (L P D:Nat→Nat→Nat) (hcv:HL σ.h 1 cv Q8 fun i=>[.int .u16 (.ofNat (M i))]) (hM : ∀ i,i<Q8→M i≤65535)
  (hlv:HL σ.h 4 lv nl fun i=>[.int .u16 (.ofNat (L i 0)),.int .u16 (.ofNat (L i 1)),.int .u16 (.ofNat (L i 2)),.int .u16 (.ofNat (L i 3))]) (hL : ∀ i j,i<nl→L i j≤65535) (hnl:nl≤9223372036854775806)
  (hpv:HL σ.h 3 pv np fun i=>[.int .u16 (.ofNat (P i 0)),.int .u16 (.ofNat (P i 1)),.int .u16 (.ofNat (P i 2))]) (hP : ∀ i j,i<np→P i j≤65535) (hnp:np≤9223372036854775806)
  (hdv:HL σ.h 3 dv nd fun i=>[.int .u16 (.ofNat (D i 0)),.int .u16 (.ofNat (D i 1)),.int .u16 (.ofNat (D i 2))]) (hD : ∀ i j,i<nd→D i j≤65535) (hnd:nd≤9223372036854775806) :
  aT EN 7 [.c (.int .u8 (.ofNat nm)),.c cv,.c lv,.c pv,.c dv] σ fun r σ'=>∃ eb Vd m cl bs A al dl,r = .agg [.sl eb 0 (1+nm%4) .opn,Vd]∧GI σ σ' (σ.ah+1) (1+nm%4) eb Vd m cl bs A al dl:=by
 refine dh (zG.o _ _) zG.h ?_
 unfold zG
 dsimp only
 simp (maxSteps:=9^9) (disch:=first|assumption|decide|omega) only [go_sem,z3]
 have hs1:1≤1+nm%4:=by omega
 have hs4:1+nm%4≤4:=by omega
 generalize 1+nm%4=n at *
 refine bY.mono (Q:=fun e tm σ'=>e = .exit 0∧∃ ev m,Tr.aj tm 2 = .c lv∧Tr.aj tm 3 = .c pv∧Tr.aj tm 4 = .c dv∧Tr.aj tm 10 = .c (.ptr σ.ah 0)∧Tr.aj tm 11 = .c (.ptr (σ.ah+1) 0)∧Tr.aj tm 12 = .c (.int .i64 (.ofNat n))∧σ'.h σ.ah=some ⟨[.aW,.aW],none⟩∧G0 σ σ' (σ.ah+1) n ev m)
  (aP (fun q tm σ'=>∃ i ev m,q=n - i∧i≤n∧Tr.aj tm 1 = .c cv∧Tr.aj tm 2 = .c lv∧Tr.aj tm 3 = .c pv∧Tr.aj tm 4 = .c dv∧Tr.aj tm 10 = .c (.ptr σ.ah 0)∧Tr.aj tm 11 = .c (.ptr (σ.ah+1) 0)∧Tr.aj tm 12 = .c (.int .i64 (.ofNat n))∧Tr.aj tm 13 = .c (.int .i64 (.ofNat i))
   ∧ σ'.h σ.ah=some ⟨[.aW,.aW],none⟩∧G0 σ σ' (σ.ah+1) i ev m) n ?_ ?_) ?_
 ·refine ⟨0,.aW,fun _=>0,by omega,by omega,?_⟩
  simp (maxSteps:=9^9) (disch:=first|assumption|decide|omega) only [go_sem,z3,true_and]
  refine ⟨?_,.inl ⟨rfl,rfl⟩,fun j hj=>by omega,?_,?_⟩
  ·rw [au]
  ·show σ.ah+1+1≤σ.ah+1+1;omega
  ·exact fr
 ·rintro q tm σ' ⟨i,ev,m,rfl,hi,t1,t2,t3,t4,t10,t11,t12,t13,q0,hG⟩
  have hF:=hG.fr
  have hle:=hF.le
  have hnx:=hG.nx
  have hb:=hG.b
  have hlen:=hcv.len
  simp (maxSteps:=9^9) (disch:=first|assumption|decide|omega) only [go_sem,z3,t1,t2,t3,t4,t10,t11,t12,t13,aV]
  refine aK (fun hlt=>?_) (fun hlt=>?_)
  ·simp (maxSteps:=9^9) (disch:=first|assumption|decide|omega) only [go_sem,z3,t1,t2,t3,t4,t10,t11,t12,t13,hlen,aV]
   have hel:=agU i m (fun _=>[]) (fun _=>0) (fun _=>.aW)
   have het:=adv i m (fun _=>[]) (fun _=>0) (fun _=>.aW)
   refine aK (fun hc=>?_) (fun hc=>?_)
   ·obtain ⟨b,o,c,rfl,hld⟩:=hcv.one (by omega)
    have hld:=hF.ld hW (hld i hc)
    have hbl:=hF.wf.iK hld
    have hMi:=hM i hc
    rcases hG.e with ⟨rfl,rfl⟩|⟨eb,rfl,hi0,k1,k2,k3⟩
    ·simp (maxSteps:=9^9) (disch:=first|assumption|decide|omega) only [go_sem,z3,t1,t2,t3,t4,t10,t11,t12,t13,hld,aA hb,hb]
     refine ⟨n - (1),by omega,1,_,aI m 0 (amt (M 0)),rfl,by omega,rfl,q0,hG.push (nx:=σ'.ah+1+1) ⟨_,rfl⟩ ?_ ?_ ?_ ?_ ?_⟩
     ·rw [au]
     ·rw [ak _ _ _ _ (by omega),au] <;> rfl
     ·omega
     ·omega
     ·exact fr
    ·simp (maxSteps:=9^9) (disch:=first|assumption|decide|omega) only [go_sem,z3,t1,t2,t3,t4,t10,t11,t12,t13,hld,aA hb,hb,k1,het]
     refine ⟨n - (i+1),by omega,i+1,_,aI m i (amt (M i)),rfl,by omega,rfl,q0,hG.push (nx:=σ'.ah+1+1) ⟨_,rfl⟩ ?_ ?_ ?_ ?_ ?_⟩
     ·rw [au]
     ·rw [ak _ _ _ _ (by omega),au] <;> rfl
     ·omega
     ·omega
     ·exact fr
   ·rcases hG.e with ⟨rfl,rfl⟩|⟨eb,rfl,hi0,k1,k2,k3⟩
    ·simp (maxSteps:=9^9) (disch:=first|assumption|decide|omega) only [go_sem,z3,t1,t2,t3,t4,t10,t11,t12,t13,aA hb,hb]
     refine ⟨n - (1),by omega,1,_,aI m 0 (0),rfl,by omega,rfl,q0,hG.push (nx:=σ'.ah+1+1) ⟨0,I5.symm⟩ ?_ ?_ ?_ ?_ ?_⟩
     ·rw [au]
     ·rw [ak _ _ _ _ (by omega),au] <;> rfl
     ·omega
     ·omega
     ·exact fr
    ·simp (maxSteps:=9^9) (disch:=first|assumption|decide|omega) only [go_sem,z3,t1,t2,t3,t4,t10,t11,t12,t13,aA hb,hb,k1,het]
     refine ⟨n - (i+1),by omega,i+1,_,aI m i (0),rfl,by omega,rfl,q0,hG.push (nx:=σ'.ah+1+1) ⟨0,I5.symm⟩ ?_ ?_ ?_ ?_ ?_⟩
     ·rw [au]
     ·rw [ak _ _ _ _ (by omega),au] <;> rfl
     ·omega
     ·omega
     ·exact fr
  ·have:i=n:=by omega
   subst this
   simp (maxSteps:=9^9) (disch:=first|assumption|decide|omega) only [go_sem,z3,t1,true_and]
   exact ⟨ev,m,t2,t3,t4,t10,t11,t12,q0,hG⟩
 ·rintro _ tm σ' ⟨rfl,ev,m,t2,t3,t4,t10,t11,t12,q0,hG⟩
  have hlenL:=hlv.len
  obtain ⟨eb,rfl,hn0,k1,k2,k3⟩:=hG.e.resolve_left (by omega)
  have hG1:GI σ σ' (σ.ah+1) n eb .aW m (fun _=>[]) (fun _=>0) (fun _=>.aW) (fun _=>[]) [] :=
   ⟨hG.b,ou.start k1 k2 k3,hG.m,fun i hi=>⟨Nat.zero_le _,fun k hk=>by simp at hk⟩,fun i hi=>⟨Nat.zero_le _,fun j hj=>by simp at hj⟩,⟨Nat.zero_le _,fun j hj=>by simp at hj⟩,hG.nx,by omega,hG.fr,fun j hj=>by simp at hj⟩
  simp (maxSteps:=9^9) (disch:=first|assumption|decide|omega) only [go_sem,z3,t2,hlenL]
  refine bY.mono (Q:=fun e tm σ'=>e = .exit 2∧∃ cl bs,Tr.aj tm 3 = .c pv∧Tr.aj tm 4 = .c dv∧Tr.aj tm 10 = .c (.ptr σ.ah 0)∧Tr.aj tm 11 = .c (.ptr (σ.ah+1) 0)∧Tr.aj tm 12 = .c (.int .i64 (.ofNat n))∧σ'.h σ.ah=some ⟨[.aW,.aW],none⟩∧GI σ σ' (σ.ah+1) n eb .aW m cl bs (fun _=>.aW) (fun _=>[]) [])
   (aP (fun q tm σ'=>∃ k cl bs,q=nl - k∧k≤nl∧Tr.aj tm 3 = .c pv∧Tr.aj tm 4 = .c dv∧Tr.aj tm 10 = .c (.ptr σ.ah 0)∧Tr.aj tm 11 = .c (.ptr (σ.ah+1) 0)∧Tr.aj tm 12 = .c (.int .i64 (.ofNat n))∧Tr.aj tm 51 = .c lv∧Tr.aj tm 52 = .c (.int .i64 (.ofNat nl))∧Tr.aj tm 53 = .c (.int .i64 (.ofNat k))∧σ'.h σ.ah=some ⟨[.aW,.aW],none⟩∧GI σ σ' (σ.ah+1) n eb .aW m cl bs (fun _=>.aW) (fun _=>[]) []) nl ?_ ?_) ?_
  ·refine ⟨0,fun _=>[],fun _=>0,by omega,by omega,?_⟩
   simp (maxSteps:=9^9) (disch:=first|assumption|decide|omega) only [go_sem,z3,t2,t3,t4,t10,t11,t12,true_and]
   exact ⟨q0,hG1⟩
  ·rintro q tm σ' ⟨k,cl,bs,rfl,hk,t3,t4,t10,t11,t12,t51,t52,t53,q0,hI⟩
   have hF:=hI.fr
   have hle:=hF.le
   have hnx:=hI.nx
   have hb:=hI.b
   have aoR:=hI.g.elo
   have akJ:=hI.g.ehi
   have Xr:=hI.g.e
   simp (maxSteps:=9^9) (disch:=first|assumption|decide|omega) only [go_sem,z3,t3,t4,t10,t11,t12,t51,t52,t53,aV]
   refine aK (fun hlt=>?_) (fun hlt=>?_)
   ·obtain ⟨b,o,c,rfl,hld⟩:=hlv.pos (by omega)
    have hld:=hF.ld hW (hld k hlt)
    have l0:=hL k 0 hlt
    have l1:=hL k 1 hlt
    have l2:=hL k 2 hlt
    have l3:=hL k 3 hlt
    have hm0:L k 0%n<n:=Nat.mod_lt _ (by omega)
    have hlC:=hI.g.ldC hm0
    have hc6:=(hI.c _ hm0).1
    generalize hx:L k 0%n=i at *
    have hfl:=BD (cl i) (bs i)
    have hfk:=mG (cl i) (bs i)
    have hge : ∀ a b:Nat,decide (Int.ofNat a≤Int.ofNat b)=decide (a≤b):=fun a b=>by simp
    simp (maxSteps:=9^9) (disch:=first|assumption|decide|omega) only [go_sem,z3,t3,t4,t10,t11,t12,t51,t52,t53,hld,hx,aA hb,hlC,hfl,hge]
    refine aK (fun h6=>?_) (fun h6=>?_)
    ·simp (maxSteps:=9^9) (disch:=first|assumption|decide|omega) only [go_sem,z3,t3,t4,t10,t11,t12,t51,t52,t53]
     exact ⟨nl - (k+1),by omega,k+1,cl,bs,rfl,by omega,rfl,q0,hI.step (by have hFr:=Fr.refl hF.wf;exact fr)⟩
    ·have hct:=agT (cl i)
     have hcn:=akI (cl i)
     have hn1:0<n+1:=by omega
     have hgood : ∀ hv:Int,(hv = -1∨∃ j:Nat,j<n∧j≠i∧hv=(j:Int))→y8 n i ⟨hv,.ofNat (L k 2%3),qY (amt (L k 3))⟩:=fun hv h=>⟨h,⟨L k 2%3,by omega,rfl⟩,_,rfl⟩
     have hwC:=fun x=>akH (m:=m) (cl:=cl) (bs:=bs) (A:=fun _=>.aW) (nx:=σ'.ah+1+1) hm0 x
     simp (maxSteps:=9^9) (disch:=first|assumption|decide|omega) only [go_sem,z3,t3,t4,t10,t11,t12,t51,t52,t53]
     refine Qa (fun hq=>?_) (fun hq=>?_)
     ·have hw:=hwC ⟨-1,.ofNat (L k 2%3),qY (amt (L k 3))⟩
      by_cases hz:(cl i).length=0
      ·have he:jl (cl i) (bs i) = .aW:=by unfold jl;rw [if_pos hz]
       rw [hz] at hw
       simp (maxSteps:=9^9) (disch:=first|assumption|decide|omega) only [go_sem,z3,t3,t4,t10,t11,t12,t51,t52,t53,hx,aA hb,hlC,he,bP Xr,Xr,hw,hq]
       refine ⟨nl - (k+1),by omega,k+1,aI cl i (cl i ++ [⟨-1,.ofNat (L k 2%3),qY (amt (L k 3))⟩]),aI bs i (σ'.ah+1+1),rfl,by omega,rfl,q0,hI.push hm0 (by omega) (hgood _ (.inl rfl)) ?_ ?_ ?_ ?_ ?_ ?_ ?_⟩
       ·simp (disch:=omega) only [ak,fH];exact hb
       ·rw [au]
       ·rw [ak _ _ _ _ (by omega),au,hz];rfl
       ·intro b9 h9 h8 h7 h6;simp (disch:=first|assumption|omega) only [ak,fH]
       ·omega
       ·omega
       ·exact fr
      ·have he:=ig (l:=cl i) (by omega) (bs i)
       obtain ⟨c1,c2,c3,c4⟩:=hI.g.c i hm0 (by omega)
       simp (maxSteps:=9^9) (disch:=first|assumption|decide|omega) only [go_sem,z3,t3,t4,t10,t11,t12,t51,t52,t53,hx,aA hb,hlC,he,c1,hct,bP Xr,Xr,hw,hq]
       refine ⟨nl - (k+1),by omega,k+1,aI cl i (cl i ++ [⟨-1,.ofNat (L k 2%3),qY (amt (L k 3))⟩]),aI bs i (σ'.ah+1+1),rfl,by omega,rfl,q0,hI.push hm0 (by omega) (hgood _ (.inl rfl)) ?_ ?_ ?_ ?_ ?_ ?_ ?_⟩
       ·simp (disch:=omega) only [ak,fH];exact hb
       ·rw [au]
       ·rw [ak _ _ _ _ (by omega),au];rfl
       ·intro b9 h9 h8 h7 h6;have h6:=h6 (by omega);simp (disch:=first|assumption|omega) only [ak,fH]
       ·omega
       ·omega
       ·exact fr
     ·simp (maxSteps:=9^9) (disch:=first|assumption|decide|omega) only [go_sem,z3,t3,t4,t10,t11,t12,t51,t52,t53,hq,hge]
      refine aK (fun hq2=>?_) (fun hq2=>?_)
      ·have hw:=hwC ⟨-1,.ofNat (L k 2%3),qY (amt (L k 3))⟩
       by_cases hz:(cl i).length=0
       ·have he:jl (cl i) (bs i) = .aW:=by unfold jl;rw [if_pos hz]
        rw [hz] at hw
        simp (maxSteps:=9^9) (disch:=first|assumption|decide|omega) only [go_sem,z3,t3,t4,t10,t11,t12,t51,t52,t53,hx,aA hb,hlC,he,bP Xr,Xr,hw]
        refine ⟨nl - (k+1),by omega,k+1,aI cl i (cl i ++ [⟨-1,.ofNat (L k 2%3),qY (amt (L k 3))⟩]),aI bs i (σ'.ah+1+1),rfl,by omega,rfl,q0,hI.push hm0 (by omega) (hgood _ (.inl rfl)) ?_ ?_ ?_ ?_ ?_ ?_ ?_⟩
        ·simp (disch:=omega) only [ak,fH];exact hb
        ·rw [au]
        ·rw [ak _ _ _ _ (by omega),au,hz];rfl
        ·intro b9 h9 h8 h7 h6;simp (disch:=first|assumption|omega) only [ak,fH]
        ·omega
        ·omega
        ·exact fr
       ·have he:=ig (l:=cl i) (by omega) (bs i)
        obtain ⟨c1,c2,c3,c4⟩:=hI.g.c i hm0 (by omega)
        simp (maxSteps:=9^9) (disch:=first|assumption|decide|omega) only [go_sem,z3,t3,t4,t10,t11,t12,t51,t52,t53,hx,aA hb,hlC,he,c1,hct,bP Xr,Xr,hw]
        refine ⟨nl - (k+1),by omega,k+1,aI cl i (cl i ++ [⟨-1,.ofNat (L k 2%3),qY (amt (L k 3))⟩]),aI bs i (σ'.ah+1+1),rfl,by omega,rfl,q0,hI.push hm0 (by omega) (hgood _ (.inl rfl)) ?_ ?_ ?_ ?_ ?_ ?_ ?_⟩
        ·simp (disch:=omega) only [ak,fH];exact hb
        ·rw [au]
        ·rw [ak _ _ _ _ (by omega),au];rfl
        ·intro b9 h9 h8 h7 h6;have h6:=h6 (by omega);simp (disch:=first|assumption|omega) only [ak,fH]
        ·omega
        ·omega
        ·exact fr
      ·have hw:=hwC ⟨.ofNat (L k 1%(n+1)),.ofNat (L k 2%3),qY (amt (L k 3))⟩
       by_cases hz:(cl i).length=0
       ·have he:jl (cl i) (bs i) = .aW:=by unfold jl;rw [if_pos hz]
        rw [hz] at hw
        simp (maxSteps:=9^9) (disch:=first|assumption|decide|omega) only [go_sem,z3,t3,t4,t10,t11,t12,t51,t52,t53,hx,aA hb,hlC,he,bP Xr,Xr,hw]
        refine ⟨nl - (k+1),by omega,k+1,aI cl i (cl i ++ [⟨.ofNat (L k 1%(n+1)),.ofNat (L k 2%3),qY (amt (L k 3))⟩]),aI bs i (σ'.ah+1+1),rfl,by omega,rfl,q0,hI.push hm0 (by omega) (hgood _ (.inr ⟨_,by omega,hq,rfl⟩)) ?_ ?_ ?_ ?_ ?_ ?_ ?_⟩
        ·simp (disch:=omega) only [ak,fH];exact hb
        ·rw [au]
        ·rw [ak _ _ _ _ (by omega),au,hz];rfl
        ·intro b9 h9 h8 h7 h6;simp (disch:=first|assumption|omega) only [ak,fH]
        ·omega
        ·omega
        ·exact fr
       ·have he:=ig (l:=cl i) (by omega) (bs i)
        obtain ⟨c1,c2,c3,c4⟩:=hI.g.c i hm0 (by omega)
        simp (maxSteps:=9^9) (disch:=first|assumption|decide|omega) only [go_sem,z3,t3,t4,t10,t11,t12,t51,t52,t53,hx,aA hb,hlC,he,c1,hct,bP Xr,Xr,hw]
        refine ⟨nl - (k+1),by omega,k+1,aI cl i (cl i ++ [⟨.ofNat (L k 1%(n+1)),.ofNat (L k 2%3),qY (amt (L k 3))⟩]),aI bs i (σ'.ah+1+1),rfl,by omega,rfl,q0,hI.push hm0 (by omega) (hgood _ (.inr ⟨_,by omega,hq,rfl⟩)) ?_ ?_ ?_ ?_ ?_ ?_ ?_⟩
        ·simp (disch:=omega) only [ak,fH];exact hb
        ·rw [au]
        ·rw [ak _ _ _ _ (by omega),au];rfl
        ·intro b9 h9 h8 h7 h6;have h6:=h6 (by omega);simp (disch:=first|assumption|omega) only [ak,fH]
        ·omega
        ·omega
        ·exact fr
   ·have:k=nl:=by omega
    simp (maxSteps:=9^9) (disch:=first|assumption|decide|omega) only [go_sem,z3,true_and]
    exact ⟨cl,bs,t3,t4,t10,t11,t12,q0,hI⟩
  ·rintro _ tm σ' ⟨rfl,cl,bs,t3,t4,t10,t11,t12,q0,hI⟩
   have QH:=hpv.len
   simp (maxSteps:=9^9) (disch:=first|assumption|decide|omega) only [go_sem,z3,t3,QH]
   refine bY.mono (Q:=fun e tm σ'=>e = .exit 4∧∃ A al,Tr.aj tm 4 = .c dv∧Tr.aj tm 10 = .c (.ptr σ.ah 0)∧Tr.aj tm 11 = .c (.ptr (σ.ah+1) 0)∧σ'.h σ.ah=some ⟨[.aW,.aW],none⟩∧GI σ σ' (σ.ah+1) n eb .aW m cl bs A al [])
    (aP (fun q tm σ'=>∃ k A al,q=np - k∧k≤np∧Tr.aj tm 4 = .c dv∧Tr.aj tm 10 = .c (.ptr σ.ah 0)∧Tr.aj tm 11 = .c (.ptr (σ.ah+1) 0)∧Tr.aj tm 12 = .c (.int .i64 (.ofNat n))∧Tr.aj tm 107 = .c pv∧Tr.aj tm 108 = .c (.int .i64 (.ofNat np))∧Tr.aj tm 109 = .c (.int .i64 (.ofNat k))∧σ'.h σ.ah=some ⟨[.aW,.aW],none⟩∧GI σ σ' (σ.ah+1) n eb .aW m cl bs A al []) np ?_ ?_) ?_
   ·refine ⟨0,fun _=>.aW,fun _=>[],by omega,by omega,?_⟩
    simp (maxSteps:=9^9) (disch:=first|assumption|decide|omega) only [go_sem,z3,t3,t4,t10,t11,t12,true_and]
    exact ⟨q0,hI⟩
   ·rintro q tm σ' ⟨k,A,al,rfl,hk,t4,t10,t11,t12,t107,adw,t109,q0,hI⟩
    have hF:=hI.fr
    have hle:=hF.le
    have hnx:=hI.nx
    have hb:=hI.b
    have aoR:=hI.g.elo
    have akJ:=hI.g.ehi
    have Xr:=hI.g.e
    simp (maxSteps:=9^9) (disch:=first|assumption|decide|omega) only [go_sem,z3,t4,t10,t11,t12,t107,adw,t109,aV]
    refine aK (fun hlt=>?_) (fun hlt=>?_)
    ·obtain ⟨b,o,c,rfl,hld⟩:=hpv.pos (by omega)
     have hld:=hF.ld hW (hld k hlt)
     have l0:=hP k 0 hlt
     have l1:=hP k 1 hlt
     have l2:=hP k 2 hlt
     have hm0:P k 0%n<n:=Nat.mod_lt _ (by omega)
     have hlA:=hI.g.ldA hm0
     have hlE:=hI.g.ldE hm0
     rw [Nat.zero_add] at hlE
     unfold nJ at hlE
     have hc6:=(hI.c _ hm0).1
     have hgA:=hI.a _ hm0
     have hAa:=hI.g.a _ hm0
     generalize hx:P k 0%n=i at *
     have hAl:=hAa.choose_spec.1.len
     have hAk:=hAa.kn
     have hfl:=BD (cl i) (bs i)
     have hfk:=mG (cl i) (bs i)
     simp (maxSteps:=9^9) (disch:=first|assumption|decide|omega) only [go_sem,z3,t4,t10,t11,t12,t107,adw,t109,hld,hx,aA hb,hlA,hAl,aV]
     refine aK (fun h2=>?_) (fun h2=>?_)
     ·simp (maxSteps:=9^9) (disch:=first|assumption|decide|omega) only [go_sem,z3,t4,t10,t11,t12,t107,adw,t109,hld,hx,aA hb,hlE,hfk,hAk,aV]
      refine aT.st (Fr σ') (by have hFr:=Fr.refl hF.wf;exact fr) fun hF3=>?_
      refine (agO hF3.wf (al i) (hAa.keep (fun b hq=>hF3.old b hq.2.1) fun _ h=>h) (hgA.len (by omega)) (cl i).length hfl (by omega) rfl rfl rfl hfk _ _ _ l0 l1 l2).mono ?_
      rintro _ σ4 ⟨⟨rv,a,rfl,hr,ha,hg⟩,hf4⟩
      have yP:=hF3.trans hf4
      have aoS:=hF.trans yP
      have hb4:=yP.get hF.wf hb
      have aoT:=yP.get hF.wf Xr
      have I4:=yP.le
      have aoU:=yP.ld hF.wf hlE
      have aoV:=hf4.get hF3.wf (au _ _ _)
      have hw:=agS (m:=m) (cl:=cl) (bs:=bs) (A:=A) (rv:=rv) hm0
      simp (maxSteps:=9^9) (disch:=first|assumption|decide|omega) only [go_sem,z3,t4,t10,t11,t12,t107,adw,t109,aA hb4,hb4,aoU,aoV,hfk,hAk,bP aoT,hw]
      refine ⟨np - (k+1),by omega,k+1,aI A i rv,aI al i (al i ++ [a]),rfl,by omega,rfl,yP.get hF.wf q0,hI.agr yP rfl hm0 (by omega) (hr.keep (fun _ _=>rfl) fun b9 h9=>h9.imp id fun h9=>⟨by have h8:σ'.ah+1≤b9:=h9.1;omega,h9.2⟩) ha hg ?_ ?_ ?_ (Nat.le_refl _) ?_⟩
      ·rw [ak _ _ _ _ (by omega)];exact hb4
      ·rw [au]
      ·intro b9 h9 h8 h7
       rw [ak _ _ _ _ h7]
      ·exact fr
     ·simp (maxSteps:=9^9) (disch:=first|assumption|decide|omega) only [go_sem,z3,t4,t10,t11,t12,t107,adw,t109]
      exact ⟨np - (k+1),by omega,k+1,A,al,rfl,by omega,rfl,q0,hI.step (by have hFr:=Fr.refl hF.wf;exact fr)⟩
    ·simp (maxSteps:=9^9) (disch:=first|assumption|decide|omega) only [go_sem,z3,true_and]
     exact ⟨A,al,t4,t10,t11,q0,hI⟩
   ·rintro _ tm σ' ⟨rfl,A,al,t4,t10,t11,q0,hI⟩
    have hlenD:=hdv.len
    simp (maxSteps:=9^9) (disch:=first|assumption|decide|omega) only [go_sem,z3,t4,hlenD]
    refine bY.mono (Q:=fun e tm σ'=>e = .exit 6∧∃ Vd dl,Tr.aj tm 10 = .c (.ptr σ.ah 0)∧Tr.aj tm 11 = .c (.ptr (σ.ah+1) 0)∧σ'.h σ.ah=some ⟨[.aW,.aW],none⟩∧GI σ σ' (σ.ah+1) n eb Vd m cl bs A al dl)
     (aP (fun q tm σ'=>∃ k Vd dl,q=nd - k∧k≤nd∧Tr.aj tm 10 = .c (.ptr σ.ah 0)∧Tr.aj tm 11 = .c (.ptr (σ.ah+1) 0)∧Tr.aj tm 139 = .c dv∧Tr.aj tm 140 = .c (.int .i64 (.ofNat nd))∧Tr.aj tm 141 = .c (.int .i64 (.ofNat k))∧σ'.h σ.ah=some ⟨[.aW,.aW],none⟩∧GI σ σ' (σ.ah+1) n eb Vd m cl bs A al dl) nd ?_ ?_) ?_
    ·refine ⟨0,.aW,[],by omega,by omega,?_⟩
     simp (maxSteps:=9^9) (disch:=first|assumption|decide|omega) only [go_sem,z3,t4,t10,t11,true_and]
     exact ⟨q0,hI⟩
    ·rintro q tm σ' ⟨k,Vd,dl,rfl,hk,t10,t11,t139,adx,t141,q0,hI⟩
     have hF:=hI.fr
     have hle:=hF.le
     have hnx:=hI.nx
     have hb:=hI.b
     have hDD:=hI.g.d
     have hDl:=hDD.choose_spec.1.len
     have hDk:=hDD.kn
     have hGG:=hI.g.grp .opn
     have hd3:=hI.d.1
     simp (maxSteps:=9^9) (disch:=first|assumption|decide|omega) only [go_sem,z3,t10,t11,t139,adx,t141,aV]
     refine aK (fun hlt=>?_) (fun hlt=>?_)
     ·obtain ⟨b,o,c,rfl,hld⟩:=hdv.pos (by omega)
      have hld:=hF.ld hW (hld k hlt)
      have l0:=hD k 0 hlt
      have l1:=hD k 1 hlt
      have l2:=hD k 2 hlt
      simp (maxSteps:=9^9) (disch:=first|assumption|decide|omega) only [go_sem,z3,t10,t11,t139,adx,t141,hld,aA hb,hDk,hDl,aV]
      refine aK (fun h2=>?_) (fun h2=>?_)
      ·simp (maxSteps:=9^9) (disch:=first|assumption|decide|omega) only [go_sem,z3,t10,t11,t139,adx,t141,hld,aA hb,hDk,hDl,aV]
       refine aT.st (Fr σ') (by have hFr:=Fr.refl hF.wf;exact fr) fun hF3=>?_
       have hEl:(iC n m cl al).length=n:=lH ..
       refine (anm hF3.wf (iC n m cl al) dl (p:=Qt (σ.ah+1+1) σ'.ah eb n cl bs) (ev:=.sl eb 0 n .opn) (hGG.e.keep (q:=fun _=>True) (fun b hq=>hF3.old b hq.2) fun _ _=>trivial) (hDD.keep (fun b hq=>hF3.old b hq.2.1) fun _ h=>h) ⟨by omega,fun j hj=>by have:=(hI.d.2 j hj).1;omega⟩ (by omega) (fun j hj=>?_) _ _ _ l0 l1 l2).mono ?_
       ·have hj' : j<n:=by omega
        rw [qy m cl al hj']
        have:=(hI.c j hj').1
        show (cl j).length≤1000
        omega
       ·rintro _ σ4 ⟨⟨rv,d,rfl,hr,hd1,hd2,hd3⟩,hf4⟩
        have yP:=hF3.trans hf4
        have aoS:=hF.trans yP
        have hb4:=yP.get hF.wf hb
        have I4:=yP.le
        simp (maxSteps:=9^9) (disch:=first|assumption|decide|omega) only [go_sem,z3,t10,t11,t139,adx,t141,bP hb4]
        refine ⟨nd - (k+1),by omega,k+1,rv,dl ++ [d],rfl,by omega,rfl,yP.get hF.wf q0,hI.dbt yP (by omega) (hr.keep (fun _ _=>rfl) fun b9 h9=>h9.imp id fun h9=>⟨by have h8:σ'.ah+1≤b9:=h9.1;omega,h9.2⟩) ⟨hd1,_,hd2⟩ hd3 ?_ ?_ (Nat.le_refl _) ?_⟩
        ·rw [au]
        ·intro b9 h9 h8
         rw [ak _ _ _ _ (by omega)]
        ·exact fr
      ·simp (maxSteps:=9^9) (disch:=first|assumption|decide|omega) only [go_sem,z3,t10,t11,t139,adx,t141]
       exact ⟨nd - (k+1),by omega,k+1,Vd,dl,rfl,by omega,rfl,q0,hI.step (by have hFr:=Fr.refl hF.wf;exact fr)⟩
     ·simp (maxSteps:=9^9) (disch:=first|assumption|decide|omega) only [go_sem,z3,true_and]
      exact ⟨Vd,dl,t10,t11,q0,hI⟩
    ·rintro _ tm σ' ⟨rfl,Vd,dl,t10,t11,q0,hI⟩
     have hF:=hI.fr
     have hb:=hI.b
     have hnx:=hI.nx
     have hDk:=hI.g.d.kn
     simp (maxSteps:=9^9) (disch:=first|assumption|decide|omega) only [go_sem,z3,t10,t11,aA hb,hDk,bP q0]
     refine ⟨eb,Vd,m,cl,bs,A,al,dl,rfl,⟨?_,?_,hI.m,hI.c,hI.a,hI.d,hI.nx,hI.lo,?_,hI.dg⟩⟩
     ·rw [ak _ _ _ _ (by omega)];exact hb
     ·exact hI.g.mono (fun b9 h9 h8=>ak _ _ _ _ (by omega)) (Nat.le_refl _)
     ·exact fr
end Go.Proofs.Xe
