/- What a law needs of a group that was built, and the tables of amounts that laws build. -/
import Derived.Test.YtiaefgffeekfkaaGreatDoorY36
set_option linter.unusedSimpArgs false
set_option linter.unusedVariables false
set_option maxHeartbeats 8000000
namespace Go.Proofs.Xe
open Go.RowKit Go.Proofs.Ins
def GoodC (n i:Nat) (x:C5):Prop:=(x.h = -1∨∃ j:Nat,j<n∧j≠i∧x.h=(j:Int))∧(∃ r:Nat,r≤7∧x.r=(r:Int))∧∃ v,x.a=ofQ (amt v)
def GoodA (nc:Nat) (al:List Agr):Prop:=al.length≤2∧∀ j,j<al.length→(ix al j).length=3∧∀ t,t<3→GoodT nc (al.take j) (ix (ix al j) t)∧(ix (ix al j) t).length≤nc+1
section
variable {h h' : Tr Bk} {dv:B} {n eb:Nat} {m:Nat→Rat} {cl:Nat→List C5} {bs:Nat→Nat} {A:Nat→B} {al:Nat→List Agr} {dl:List Dbt} {lo hi:Nat}
theorem est_wr {i nx:Nat} (hi:i<n) (x:C5):wrC (celR n (estC m cl bs A)) (i*5+3) [.sl nx 0 ((cl i).length+1) .opn]=some (celR n (estC m (updF cl i (cl i ++ [x])) (updF bs i nx) A)):=by
 rw [wr_cel (e:=5) (fun _=>rfl) hi (by simp)]
 show some _=some _
 congr 1
 refine cel_congr fun j hj=>?_
 unfold updG
 by_cases e:j=i
 ·subst e
  rw [if_pos rfl]
  unfold estC
  rw [updF_same,updF_same,famV_pos (l:=cl j ++ [x]) (by simp),List.length_append];rfl
 ·rw [if_neg e]
  unfold estC
  rw [updF_ne _ _ _ _ e,updF_ne _ _ _ _ e]
theorem est_wrA {i:Nat} {rv:B} (hi:i<n):wrC (celR n (estC m cl bs A)) (i*5+4) [rv]=some (celR n (estC m cl bs (updF A i rv))):=by
 rw [wr_cel (e:=5) (fun _=>rfl) hi (by simp)]
 show some _=some _
 congr 1
 refine cel_congr fun j hj=>?_
 unfold updG
 by_cases e:j=i
 ·subst e
  rw [if_pos rfl]
  unfold estC
  rw [updF_same];rfl
 ·rw [if_neg e]
  unfold estC
  rw [updF_ne _ _ _ _ e]
theorem OGrp.push (ho:OGrp h dv n eb m cl bs A al dl lo hi) {i nx:Nat} (hi' : i<n) (x:C5) (hnx:hi≤nx) {hi2:Nat} (h2:nx<hi2) (he:h' eb=some ⟨celR n (estC m (updF cl i (cl i ++ [x])) (updF bs i nx) A),some (5,76)⟩)
  (hx:h' nx=some ⟨celR (cl i).length (clC (cl i)) ++ c5B x,some (5,79)⟩) (hb : ∀ b,lo≤b→b<hi→b≠eb→(0<(cl i).length→b≠bs i)→h' b=h b):OGrp h' dv n eb m (updF cl i (cl i ++ [x])) (updF bs i nx) A al dl lo hi2:=by
 have hq : ∀ b,Qt lo hi eb n cl bs b→Qt lo hi2 eb n (updF cl i (cl i ++ [x])) (updF bs i nx) b:=fun b q=>⟨q.1,by have:=q.2.1;omega,q.2.2.1,fun j hj hp=>by
  by_cases e:j=i
  ·subst e;rw [updF_same];have:=q.2.1;omega
  ·rw [updF_ne _ _ _ _ e] at hp ⊢;exact q.2.2.2 j hj hp⟩
 have hk : ∀ b,Qt lo hi eb n cl bs b→h' b=h b:=fun b q=>hb b q.1 q.2.1 q.2.2.1 fun hp=>q.2.2.2 i hi' hp
 have hlo:=ho.elo
 have hhi:=ho.ehi
 refine ⟨he,ho.elo,by omega,fun j hj hp=>?_,fun a b ha hb' pa pb e=>?_,fun j hj=>(ho.a j hj).keep hk hq,ho.d.keep hk hq⟩
 ·by_cases e:j=i
  ·subst e
   rw [updF_same,updF_same,List.length_append,List.length_singleton]
   refine ⟨?_,by omega,h2,by omega⟩
   rw [hx,cel_snoc]
   congr 2
   refine cel_congr fun k hk=>?_
   unfold updG clC
   split
   ·next e=>rw [e,ix_snoc_eq]
   ·rw [ix_snoc_lt _ _ (by omega)]
  ·rw [updF_ne _ _ _ _ e] at hp ⊢
   rw [updF_ne _ _ _ _ e]
   obtain ⟨k1,k2,k3,k4⟩:=ho.c j hj hp
   exact ⟨by rw [hb _ k2 k3 k4 fun hp2 e2=>e (ho.inj j i hj hi' hp hp2 e2)];exact k1,k2,by omega,k4⟩
 ·by_cases e1:a=i
  ·by_cases e2:b=i
   ·rw [e1,e2]
   ·rw [e1,updF_same,updF_ne _ _ _ _ e2] at e
    rw [updF_ne _ _ _ _ e2] at pb
    have:=(ho.c b hb' pb).2.2.1
    omega
  ·by_cases e2:b=i
   ·rw [e2,updF_same,updF_ne _ _ _ _ e1] at e
    rw [updF_ne _ _ _ _ e1] at pa
    have:=(ho.c a ha pa).2.2.1
    omega
   ·rw [updF_ne _ _ _ _ e1] at pa
    rw [updF_ne _ _ _ _ e2] at pb
    rw [updF_ne _ _ _ _ e1,updF_ne _ _ _ _ e2] at e
    exact ho.inj a b ha hb' pa pb e
theorem OGrp.setA (ho:OGrp h dv n eb m cl bs A al dl lo hi) {i:Nat} (hi' : i<n) {rv:B} {l:List Agr} {hi2:Nat} (h2:hi≤hi2) (he:h' eb=some ⟨celR n (estC m cl bs (updF A i rv)),some (5,76)⟩)
  (hb : ∀ b,lo≤b→b<hi→b≠eb→h' b=h b) (hr:HAgrs (Qt lo hi2 eb n cl bs) h' rv l):OGrp h' dv n eb m cl bs (updF A i rv) (updF al i l) dl lo hi2:=by
 have hq : ∀ b,Qt lo hi eb n cl bs b→Qt lo hi2 eb n cl bs b:=fun b q=>⟨q.1,by have:=q.2.1;omega,q.2.2⟩
 have hk : ∀ b,Qt lo hi eb n cl bs b→h' b=h b:=fun b q=>hb b q.1 q.2.1 q.2.2.1
 refine ⟨he,ho.elo,by have:=ho.ehi;omega,fun j hj hp=>?_,ho.inj,fun j hj=>?_,ho.d.keep hk hq⟩
 ·obtain ⟨k1,k2,k3,k4⟩:=ho.c j hj hp
  exact ⟨by rw [hb _ k2 k3 k4];exact k1,k2,by omega,k4⟩
 ·by_cases e:j=i
  ·subst e;rw [updF_same,updF_same];exact hr
  ·rw [updF_ne _ _ _ _ e,updF_ne _ _ _ _ e];exact (ho.a j hj).keep hk hq
theorem OGrp.setD (ho:OGrp h dv n eb m cl bs A al dl lo hi) {dv' : B} {l:List Dbt} {hi2:Nat} (h2:hi≤hi2) (hb : ∀ b,lo≤b→b<hi→h' b=h b) (hr:HDbts (Qt lo hi2 eb n cl bs) h' dv' l):OGrp h' dv' n eb m cl bs A al l lo hi2:=by
 have:=ho.mono hb h2
 exact ⟨this.e,this.elo,this.ehi,this.c,this.inj,this.a,hr⟩
theorem HAgrs.none (p:Nat→Prop) (h:Tr Bk):HAgrs p h .nils []:=⟨fun _=>.nils,.inl ⟨rfl,rfl⟩,fun i hi=>by simp at hi⟩
theorem HDbts.none (p:Nat→Prop) (h:Tr Bk):HDbts p h .nils []:=⟨fun _=>.nils,.inl ⟨rfl,rfl⟩,fun i hi=>by simp at hi⟩
theorem OGrp.start (he:h eb=some ⟨celR n (estC m (fun _=>[]) (fun _=>0) (fun _=>.nils)),some (5,76)⟩) (h1:lo≤eb) (h2:eb<hi):OGrp h .nils n eb m (fun _=>[]) (fun _=>0) (fun _=>.nils) (fun _=>[]) [] lo hi :=
 ⟨he,h1,h2,fun i _ hp=>by simp at hp,fun i j _ _ hp=>by simp at hp,fun _ _=>HAgrs.none _ _,HDbts.none _ _⟩
theorem cl_take (l:List C5):(celR l.length (clC l)).take (l.length*5)=celR l.length (clC l):=cel_take fun _=>rfl
theorem cl_len (l:List C5):l.length*5≤(celR l.length (clC l)).length:=by rw [cel_len (e:=5) fun _=>rfl];exact Nat.le_refl _
theorem GoodC.snoc {i:Nat} {l:List C5} {x:C5} (hl : ∀ k,k<l.length→GoodC n i (ix l k)) (hx:GoodC n i x) : ∀ k,k<(l ++ [x]).length→GoodC n i (ix (l ++ [x]) k):=fun k hk=>by
 rw [List.length_append,List.length_singleton] at hk
 by_cases e:k=l.length
 ·rw [e,ix_snoc_eq];exact hx
 ·rw [ix_snoc_lt _ _ (by omega)];exact hl k (by omega)
end
structure GI (σ σ' : St) (t11 n eb:Nat) (dv:B) (m:Nat→Rat) (cl:Nat→List C5) (bs:Nat→Nat) (A:Nat→B) (al:Nat→List Agr) (dl:List Dbt):Prop where
 b:σ'.h t11=some ⟨[.sl eb 0 n .opn,dv],none⟩
 g:OGrp σ'.h dv n eb m cl bs A al dl (t11+1) σ'.nxt
 m : ∀ i,i<n→∃ v,m i=amt v
 c : ∀ i,i<n→(cl i).length≤6∧∀ k,k<(cl i).length→GoodC n i (ix (cl i) k)
 a : ∀ i,i<n→GoodA (cl i).length (al i)
 d:dl.length≤3∧∀ j,j<dl.length→(ix dl j).l.length≤4∧∃ v,(ix dl j).w=ofQ (amt v)
 nx:t11+1≤σ'.nxt
 lo:σ.nxt≤t11
 fr:Fr σ σ'
theorem GI.step {σ σ' σ3:St} {t11 n eb:Nat} {dv:B} {m:Nat→Rat} {cl:Nat→List C5} {bs:Nat→Nat} {A:Nat→B} {al:Nat→List Agr} {dl:List Dbt} (hI:GI σ σ' t11 n eb dv m cl bs A al dl) (hf:Fr σ' σ3):GI σ σ3 t11 n eb dv m cl bs A al dl:=by
 have hn:=hI.nx
 have hle:=hf.le
 exact ⟨by rw [hf.old _ (by omega)];exact hI.b,hI.g.mono (fun b _ hb=>hf.old b hb) hle,hI.m,hI.c,hI.a,hI.d,by omega,hI.lo,hI.fr.trans hf⟩
theorem GI.push {σ σ' : St} {t11 n eb:Nat} {dv:B} {m:Nat→Rat} {cl:Nat→List C5} {bs:Nat→Nat} (hI:GI σ σ' t11 n eb dv m cl bs (fun _=>.nils) (fun _=>[]) []) {i nx n' : Nat} {x:C5} {h' : Tr Bk} (hi:i<n) (hl:(cl i).length≤5) (hx:GoodC n i x) (hb:h' t11=some ⟨[.sl eb 0 n .opn,dv],none⟩)
  (he:h' eb=some ⟨celR n (estC m (updF cl i (cl i ++ [x])) (updF bs i nx) (fun _=>.nils)),some (5,76)⟩) (hc:h' nx=some ⟨celR (cl i).length (clC (cl i)) ++ c5B x,some (5,79)⟩)
  (ho : ∀ b,t11+1≤b→b<σ'.nxt→b≠eb→(0<(cl i).length→b≠bs i)→h' b=σ'.h b) (hn:σ'.nxt≤nx) (hn' : nx<n') (hf:Fr σ ⟨h',n'⟩):GI σ ⟨h',n'⟩ t11 n eb dv m (updF cl i (cl i ++ [x])) (updF bs i nx) (fun _=>.nils) (fun _=>[]) []:=by
 have hn0:=hI.nx
 refine ⟨hb,hI.g.push hi x hn hn' he hc ho,hI.m,fun j hj=>?_,fun j hj=>⟨Nat.zero_le _,fun k hk=>by simp at hk⟩,hI.d,by show _≤n';omega,hI.lo,hf⟩
 by_cases e:j=i
 ·subst e
  rw [updF_same,List.length_append,List.length_singleton]
  refine ⟨by omega,fun k hk=>?_⟩
  exact GoodC.snoc (hI.c j hj).2 hx k (by rw [List.length_append,List.length_singleton];exact hk)
 ·rw [updF_ne _ _ _ _ e];exact hI.c j hj
theorem GoodA.len {nc:Nat} {al:List Agr} (h:GoodA nc al) (hn:nc≤10):LenA al:=⟨by have:=h.1;omega,fun j hj=>by
 obtain ⟨h1,h2⟩:=h.2 j hj
 exact ⟨by omega,fun t ht=>by have:=(h2 t (by omega)).2;omega⟩⟩
theorem GoodA.snoc {nc:Nat} {al:List Agr} {a:Agr} (h:GoodA nc al) (h1:al.length≤1) (ha:a.length=3) (hg : ∀ t,t<3→GoodT nc al (ix a t)∧(ix a t).length≤nc+1):GoodA nc (al ++ [a]):=by
 refine ⟨by simp;omega,fun j hj=>?_⟩
 rw [List.length_append,List.length_singleton] at hj
 by_cases e:j=al.length
 ·subst e
  rw [ix_snoc_eq,List.take_left']
  ·exact ⟨ha,hg⟩
  ·rfl
 ·rw [ix_snoc_lt _ _ (by omega),List.take_append_of_le_length (by omega)]
  exact h.2 j (by omega)
theorem GI.agr {σ σ' σ3:St} {t11 n eb:Nat} {dv:B} {m:Nat→Rat} {cl:Nat→List C5} {bs:Nat→Nat} {A:Nat→B} {al:Nat→List Agr} {dl:List Dbt} (hI:GI σ σ' t11 n eb dv m cl bs A al dl) (hf3:Fr σ' σ3) {i n' : Nat} {rv:B} {a:Agr} {h' : Tr Bk} (hi:i<n) (h1:(al i).length≤1)
  (hr:HAgrs (fun b=>Qt (t11+1) σ'.nxt eb n cl bs b∨σ'.nxt≤b∧b<σ3.nxt) σ3.h rv (al i ++ [a])) (ha:a.length=3) (hg : ∀ t,t<3→GoodT (cl i).length (al i) (ix a t)∧(ix a t).length≤(cl i).length+1)
  (hb:h' t11=some ⟨[.sl eb 0 n .opn,dv],none⟩) (he:h' eb=some ⟨celR n (estC m cl bs (updF A i rv)),some (5,76)⟩) (ho : ∀ b,t11+1≤b→b<σ3.nxt→b≠eb→h' b=σ3.h b) (hn:σ3.nxt≤n') (hf:Fr σ ⟨h',n'⟩):GI σ ⟨h',n'⟩ t11 n eb dv m cl bs (updF A i rv) (updF al i (al i ++ [a])) dl:=by
 have hn0:=hI.nx
 have hle:=hf3.le
 have hehi:=hI.g.ehi
 refine ⟨hb,(hI.g.mono (fun b _ hb=>hf3.old b hb) hle).setA hi hn he (fun b b1 b2 b3=>ho b b1 b2 b3) (hr.keep (fun b hq=>?_) fun b hq=>?_),hI.m,hI.c,fun j hj=>?_,hI.d,by show _≤n';omega,hI.lo,hf⟩
 ·rcases hq with hq|hq
  ·exact ho b hq.1 (by have:=hq.2.1;omega) hq.2.2.1
  ·exact ho b (by omega) hq.2 (by omega)
 ·rcases hq with hq|hq
  ·exact ⟨hq.1,show b<n' by have:=hq.2.1;omega,hq.2.2⟩
  ·obtain ⟨h8,h9⟩:=hq
   exact ⟨by omega,show b<n' by omega,by omega,fun j hj hp=>by have:=(hI.g.c j hj hp).2.2.1;omega⟩
 ·by_cases e:j=i
  ·subst e;rw [updF_same];exact (hI.a j hj).snoc h1 ha hg
  ·rw [updF_ne _ _ _ _ e];exact hI.a j hj
theorem GI.dbt {σ σ' σ3:St} {t11 n eb:Nat} {dv:B} {m:Nat→Rat} {cl:Nat→List C5} {bs:Nat→Nat} {A:Nat→B} {al:Nat→List Agr} {dl:List Dbt} (hI:GI σ σ' t11 n eb dv m cl bs A al dl) (hf3:Fr σ' σ3) {n' : Nat} {rv:B} {d:Dbt} {h' : Tr Bk} (h1:dl.length≤2)
  (hr:HDbts (fun b=>Qt (t11+1) σ'.nxt eb n cl bs b∨σ'.nxt≤b∧b<σ3.nxt) σ3.h rv (dl ++ [d])) (hd:d.l.length≤4∧∃ v,d.w=ofQ (amt v))
  (hb:h' t11=some ⟨[.sl eb 0 n .opn,rv],none⟩) (ho : ∀ b,t11+1≤b→b<σ3.nxt→h' b=σ3.h b) (hn:σ3.nxt≤n') (hf:Fr σ ⟨h',n'⟩):GI σ ⟨h',n'⟩ t11 n eb rv m cl bs A al (dl ++ [d]):=by
 have hn0:=hI.nx
 have hle:=hf3.le
 have hehi:=hI.g.ehi
 refine ⟨hb,(hI.g.mono (fun b _ hb=>hf3.old b hb) hle).setD hn (fun b b1 b2=>ho b b1 b2) (hr.keep (fun b hq=>?_) fun b hq=>?_),hI.m,hI.c,hI.a,⟨by simp;omega,fun j hj=>?_⟩,by show _≤n';omega,hI.lo,hf⟩
 ·rcases hq with hq|hq
  ·exact ho b hq.1 (by have:=hq.2.1;omega)
  ·exact ho b (by omega) hq.2
 ·rcases hq with hq|hq
  ·exact ⟨hq.1,show b<n' by have:=hq.2.1;omega,hq.2.2⟩
  ·obtain ⟨h8,h9⟩:=hq
   exact ⟨by omega,show b<n' by omega,by omega,fun j hj hp=>by have:=(hI.g.c j hj hp).2.2.1;omega⟩
 ·rw [List.length_append,List.length_singleton] at hj
  by_cases e:j=dl.length
  ·rw [e,ix_snoc_eq];exact hd
  ·rw [ix_snoc_lt _ _ (by omega)];exact hI.d.2 j (by omega)
theorem amt_zero:amt 0=0:=by
 rw [amt_0 (by decide)]
 show ((0:Int):Rat)/((1:Int):Rat)=0
 grind
structure G0 (σ σ' : St) (t11 i:Nat) (ev:B) (m:Nat→Rat):Prop where
 b:σ'.h t11=some ⟨[ev,.nils],none⟩
 e:(i=0∧ev = .nils)∨∃ eb,ev = .sl eb 0 i .opn∧0<i∧σ'.h eb=some ⟨celR i (estC m (fun _=>[]) (fun _=>0) (fun _=>.nils)),some (5,76)⟩∧t11+1≤eb∧eb<σ'.nxt
 m : ∀ j,j<i→∃ v,m j=amt v
 nx:t11+1≤σ'.nxt
 fr:Fr σ σ'
theorem est_take (i:Nat) (m:Nat→Rat) (cl:Nat→List C5) (bs:Nat→Nat) (A:Nat→B):(celR i (estC m cl bs A)).take (i*5)=celR i (estC m cl bs A):=cel_take fun _=>rfl
theorem est_len (i:Nat) (m:Nat→Rat) (cl:Nat→List C5) (bs:Nat→Nat) (A:Nat→B):i*5≤(celR i (estC m cl bs A)).length:=by rw [cel_len (e:=5) fun _=>rfl];exact Nat.le_refl _
theorem G0.push {σ σ' : St} {t11 i:Nat} {ev:B} {m:Nat→Rat} (hG:G0 σ σ' t11 i ev m) {q:Rat} (hq : ∃ v,q=amt v) {h' : Tr Bk} {nx n' : Nat} (hb:h' t11=some ⟨[.sl nx 0 (i+1) .opn,.nils],none⟩)
  (hx:h' nx=some ⟨celR i (estC m (fun _=>[]) (fun _=>0) (fun _=>.nils)) ++ [.bool (rn q),.str (rs q),.str (rd q),.nils,.nils],some (5,76)⟩) (hn:σ'.nxt≤nx) (hn' : nx<n') (hf:Fr σ ⟨h',n'⟩):G0 σ ⟨h',n'⟩ t11 (i+1) (.sl nx 0 (i+1) .opn) (updF m i q):=by
 have hn0:=hG.nx
 refine ⟨hb,.inr ⟨nx,rfl,by omega,?_,by omega,hn'⟩,fun j hj=>?_,by show _≤n';omega,hf⟩
 ·show h' nx=_
  rw [hx,cel_snoc]
  congr 2
  refine cel_congr fun j hj=>?_
  unfold updG estC
  by_cases e:j=i
  ·rw [if_pos e,e,updF_same];rfl
  ·rw [if_neg e,updF_ne _ _ _ _ e]
 ·unfold updF
  split
  ·exact hq
  ·exact hG.m j (by omega)
set_option maxRecDepth 10000 in
theorem group_x {σ:St} (hW:WF σ) {nm ncash nl np nd:Nat} (hnm:nm≤255) {cv lv pv dv:B} (M:Nat→Nat) (L P D:Nat→Nat→Nat) (hcv:HL σ.h 1 cv ncash fun i=>[.int .u16 (.ofNat (M i))]) (hM : ∀ i,i<ncash→M i≤65535)
  (hlv:HL σ.h 4 lv nl fun i=>[.int .u16 (.ofNat (L i 0)),.int .u16 (.ofNat (L i 1)),.int .u16 (.ofNat (L i 2)),.int .u16 (.ofNat (L i 3))]) (hL : ∀ i j,i<nl→L i j≤65535) (hnl:nl≤9223372036854775806)
  (hpv:HL σ.h 3 pv np fun i=>[.int .u16 (.ofNat (P i 0)),.int .u16 (.ofNat (P i 1)),.int .u16 (.ofNat (P i 2))]) (hP : ∀ i j,i<np→P i j≤65535) (hnp:np≤9223372036854775806)
  (hdv:HL σ.h 3 dv nd fun i=>[.int .u16 (.ofNat (D i 0)),.int .u16 (.ofNat (D i 1)),.int .u16 (.ofNat (D i 2))]) (hD : ∀ i j,i<nd→D i j≤65535) (hnd:nd≤9223372036854775806) :
  CallX EN 20 [.c (.int .u8 (.ofNat nm)),.c cv,.c lv,.c pv,.c dv] σ fun r σ'=>∃ eb dv' m cl bs A al dl,r = .agg [.sl eb 0 (1+nm%4) .opn,dv']∧GI σ σ' (σ.nxt+1) (1+nm%4) eb dv' m cl bs A al dl:=by
 refine call_fn (O_l0_Group _ _) F_l0_Group ?_
 unfold a_l0_Group
 simp (maxSteps:=9^9) (disch:=first|assumption|decide|omega) only [go_sem,z3]
 have hs1:1≤1+nm%4:=by omega
 have hs4:1+nm%4≤4:=by omega
 generalize 1+nm%4=n at *
 refine RunX.mono (Q:=fun e tm σ'=>e = .exit 0∧∃ ev m,Tr.getV tm 2 = .c lv∧Tr.getV tm 3 = .c pv∧Tr.getV tm 4 = .c dv∧Tr.getV tm 10 = .c (.ptr σ.nxt 0)∧Tr.getV tm 11 = .c (.ptr (σ.nxt+1) 0)∧Tr.getV tm 12 = .c (.int .i64 (.ofNat n))∧σ'.h σ.nxt=some ⟨[.nils,.nils],none⟩∧G0 σ σ' (σ.nxt+1) n ev m)
  (run_loop (fun q tm σ'=>∃ i ev m,q=n - i∧i≤n∧Tr.getV tm 1 = .c cv∧Tr.getV tm 2 = .c lv∧Tr.getV tm 3 = .c pv∧Tr.getV tm 4 = .c dv∧Tr.getV tm 10 = .c (.ptr σ.nxt 0)∧Tr.getV tm 11 = .c (.ptr (σ.nxt+1) 0)∧Tr.getV tm 12 = .c (.int .i64 (.ofNat n))∧Tr.getV tm 13 = .c (.int .i64 (.ofNat i))
   ∧ σ'.h σ.nxt=some ⟨[.nils,.nils],none⟩∧G0 σ σ' (σ.nxt+1) i ev m) n ?_ ?_) ?_
 ·refine ⟨0,.nils,fun _=>0,by omega,by omega,?_⟩
  simp (maxSteps:=9^9) (disch:=first|assumption|decide|omega) only [go_sem,z3,true_and]
  refine ⟨?_,.inl ⟨rfl,rfl⟩,fun j hj=>by omega,?_,?_⟩
  ·rw [hset_get]
  ·show σ.nxt+1+1≤σ.nxt+1+1;omega
  ·exact fr
 ·rintro q tm σ' ⟨i,ev,m,rfl,hi,t1,t2,t3,t4,t10,t11,t12,t13,q0,hG⟩
  unfold a_l0_Group_l0
  have hF:=hG.fr
  have hle:=hF.le
  have hnx:=hG.nx
  have hb:=hG.b
  have hlen:=hcv.len
  simp (maxSteps:=9^9) (disch:=first|assumption|decide|omega) only [go_sem,z3,t1,t2,t3,t4,t10,t11,t12,t13,lt_ofNat]
  refine ifV_dec (fun hlt=>?_) (fun hlt=>?_)
  ·simp (maxSteps:=9^9) (disch:=first|assumption|decide|omega) only [go_sem,z3,t1,t2,t3,t4,t10,t11,t12,t13,hlen,lt_ofNat]
   have hel:=est_len i m (fun _=>[]) (fun _=>0) (fun _=>.nils)
   have het:=est_take i m (fun _=>[]) (fun _=>0) (fun _=>.nils)
   refine ifV_dec (fun hc=>?_) (fun hc=>?_)
   ·obtain ⟨b,o,c,rfl,hld⟩:=hcv.one (by omega)
    have hld:=hF.ld hW (hld i hc)
    have hbl:=hF.wf.ld_lt hld
    have hMi:=hM i hc
    rcases hG.e with ⟨rfl,rfl⟩|⟨eb,rfl,hi0,k1,k2,k3⟩
    ·simp (maxSteps:=9^9) (disch:=first|assumption|decide|omega) only [go_sem,z3,t1,t2,t3,t4,t10,t11,t12,t13,hld,ld_blk hb,hb]
     refine ⟨n - (1),by omega,1,_,updF m 0 (amt (M 0)),rfl,by omega,rfl,q0,hG.push (nx:=σ'.nxt+1+1) ⟨_,rfl⟩ ?_ ?_ ?_ ?_ ?_⟩
     ·rw [hset_get]
     ·rw [hset_ne _ _ _ _ (by omega),hset_get] <;> rfl
     ·omega
     ·omega
     ·exact fr
    ·simp (maxSteps:=9^9) (disch:=first|assumption|decide|omega) only [go_sem,z3,t1,t2,t3,t4,t10,t11,t12,t13,hld,ld_blk hb,hb,k1,het]
     refine ⟨n - (i+1),by omega,i+1,_,updF m i (amt (M i)),rfl,by omega,rfl,q0,hG.push (nx:=σ'.nxt+1+1) ⟨_,rfl⟩ ?_ ?_ ?_ ?_ ?_⟩
     ·rw [hset_get]
     ·rw [hset_ne _ _ _ _ (by omega),hset_get] <;> rfl
     ·omega
     ·omega
     ·exact fr
   ·rcases hG.e with ⟨rfl,rfl⟩|⟨eb,rfl,hi0,k1,k2,k3⟩
    ·simp (maxSteps:=9^9) (disch:=first|assumption|decide|omega) only [go_sem,z3,t1,t2,t3,t4,t10,t11,t12,t13,ld_blk hb,hb]
     refine ⟨n - (1),by omega,1,_,updF m 0 (0),rfl,by omega,rfl,q0,hG.push (nx:=σ'.nxt+1+1) ⟨0,amt_zero.symm⟩ ?_ ?_ ?_ ?_ ?_⟩
     ·rw [hset_get]
     ·rw [hset_ne _ _ _ _ (by omega),hset_get] <;> rfl
     ·omega
     ·omega
     ·exact fr
    ·simp (maxSteps:=9^9) (disch:=first|assumption|decide|omega) only [go_sem,z3,t1,t2,t3,t4,t10,t11,t12,t13,ld_blk hb,hb,k1,het]
     refine ⟨n - (i+1),by omega,i+1,_,updF m i (0),rfl,by omega,rfl,q0,hG.push (nx:=σ'.nxt+1+1) ⟨0,amt_zero.symm⟩ ?_ ?_ ?_ ?_ ?_⟩
     ·rw [hset_get]
     ·rw [hset_ne _ _ _ _ (by omega),hset_get] <;> rfl
     ·omega
     ·omega
     ·exact fr
  ·have:i=n:=by omega
   subst this
   simp (maxSteps:=9^9) (disch:=first|assumption|decide|omega) only [go_sem,z3,t1,true_and]
   exact ⟨ev,m,t2,t3,t4,t10,t11,t12,q0,hG⟩
 ·rintro _ tm σ' ⟨rfl,ev,m,t2,t3,t4,t10,t11,t12,q0,hG⟩
  have hlenL:=hlv.len
  obtain ⟨eb,rfl,hn0,k1,k2,k3⟩:=hG.e.resolve_left (by omega)
  have hG1:GI σ σ' (σ.nxt+1) n eb .nils m (fun _=>[]) (fun _=>0) (fun _=>.nils) (fun _=>[]) [] :=
   ⟨hG.b,OGrp.start k1 k2 k3,hG.m,fun i hi=>⟨Nat.zero_le _,fun k hk=>by simp at hk⟩,fun i hi=>⟨Nat.zero_le _,fun j hj=>by simp at hj⟩,⟨Nat.zero_le _,fun j hj=>by simp at hj⟩,hG.nx,by omega,hG.fr⟩
  simp (maxSteps:=9^9) (disch:=first|assumption|decide|omega) only [go_sem,z3,t2,hlenL]
  refine RunX.mono (Q:=fun e tm σ'=>e = .exit 2∧∃ cl bs,Tr.getV tm 3 = .c pv∧Tr.getV tm 4 = .c dv∧Tr.getV tm 10 = .c (.ptr σ.nxt 0)∧Tr.getV tm 11 = .c (.ptr (σ.nxt+1) 0)∧Tr.getV tm 12 = .c (.int .i64 (.ofNat n))∧σ'.h σ.nxt=some ⟨[.nils,.nils],none⟩∧GI σ σ' (σ.nxt+1) n eb .nils m cl bs (fun _=>.nils) (fun _=>[]) [])
   (run_loop (fun q tm σ'=>∃ k cl bs,q=nl - k∧k≤nl∧Tr.getV tm 3 = .c pv∧Tr.getV tm 4 = .c dv∧Tr.getV tm 10 = .c (.ptr σ.nxt 0)∧Tr.getV tm 11 = .c (.ptr (σ.nxt+1) 0)∧Tr.getV tm 12 = .c (.int .i64 (.ofNat n))∧Tr.getV tm 51 = .c lv∧Tr.getV tm 52 = .c (.int .i64 (.ofNat nl))∧Tr.getV tm 53 = .c (.int .i64 (.ofNat k))∧σ'.h σ.nxt=some ⟨[.nils,.nils],none⟩∧GI σ σ' (σ.nxt+1) n eb .nils m cl bs (fun _=>.nils) (fun _=>[]) []) nl ?_ ?_) ?_
  ·refine ⟨0,fun _=>[],fun _=>0,by omega,by omega,?_⟩
   simp (maxSteps:=9^9) (disch:=first|assumption|decide|omega) only [go_sem,z3,t2,t3,t4,t10,t11,t12,true_and]
   exact ⟨q0,hG1⟩
  ·rintro q tm σ' ⟨k,cl,bs,rfl,hk,t3,t4,t10,t11,t12,t51,t52,t53,q0,hI⟩
   unfold a_l0_Group_l1
   have hF:=hI.fr
   have hle:=hF.le
   have hnx:=hI.nx
   have hb:=hI.b
   have helo:=hI.g.elo
   have hehi:=hI.g.ehi
   have heE:=hI.g.e
   simp (maxSteps:=9^9) (disch:=first|assumption|decide|omega) only [go_sem,z3,t3,t4,t10,t11,t12,t51,t52,t53,lt_ofNat]
   refine ifV_dec (fun hlt=>?_) (fun hlt=>?_)
   ·obtain ⟨b,o,c,rfl,hld⟩:=hlv.pos (by omega)
    have hld:=hF.ld hW (hld k hlt)
    have l0:=hL k 0 hlt
    have l1:=hL k 1 hlt
    have l2:=hL k 2 hlt
    have l3:=hL k 3 hlt
    have hm0:L k 0%n<n:=Nat.mod_lt _ (by omega)
    have hlC:=hI.g.ldC hm0
    have hc6:=(hI.c _ hm0).1
    generalize hx:L k 0%n=i at *
    have hfl:=famV_len (cl i) (bs i)
    have hfk:=famV_kn (cl i) (bs i)
    have hge : ∀ a b:Nat,decide (Int.ofNat a≤Int.ofNat b)=decide (a≤b):=fun a b=>by simp
    simp (maxSteps:=9^9) (disch:=first|assumption|decide|omega) only [go_sem,z3,t3,t4,t10,t11,t12,t51,t52,t53,hld,hx,ld_blk hb,hlC,hfl,hge]
    refine ifV_dec (fun h6=>?_) (fun h6=>?_)
    ·simp (maxSteps:=9^9) (disch:=first|assumption|decide|omega) only [go_sem,z3,t3,t4,t10,t11,t12,t51,t52,t53]
     exact ⟨nl - (k+1),by omega,k+1,cl,bs,rfl,by omega,rfl,q0,hI.step (by have hFr:=Fr.refl hF.wf;exact fr)⟩
    ·have hct:=cl_take (cl i)
     have hcn:=cl_len (cl i)
     have hn1:0<n+1:=by omega
     have hgood : ∀ hv:Int,(hv = -1∨∃ j:Nat,j<n∧j≠i∧hv=(j:Int))→GoodC n i ⟨hv,.ofNat (L k 2%3),ofQ (amt (L k 3))⟩:=fun hv h=>⟨h,⟨L k 2%3,by omega,rfl⟩,_,rfl⟩
     have hwC:=fun x=>est_wr (m:=m) (cl:=cl) (bs:=bs) (A:=fun _=>.nils) (nx:=σ'.nxt+1+1) hm0 x
     simp (maxSteps:=9^9) (disch:=first|assumption|decide|omega) only [go_sem,z3,t3,t4,t10,t11,t12,t51,t52,t53]
     refine gsV_dec' (fun hq=>?_) (fun hq=>?_)
     ·have hw:=hwC ⟨-1,.ofNat (L k 2%3),ofQ (amt (L k 3))⟩
      by_cases hz:(cl i).length=0
      ·have he:famV (cl i) (bs i) = .nils:=by unfold famV;rw [if_pos hz]
       rw [hz] at hw
       simp (maxSteps:=9^9) (disch:=first|assumption|decide|omega) only [go_sem,z3,t3,t4,t10,t11,t12,t51,t52,t53,hx,ld_blk hb,hlC,he,sto_blk heE,heE,hw,hq]
       refine ⟨nl - (k+1),by omega,k+1,updF cl i (cl i ++ [⟨-1,.ofNat (L k 2%3),ofQ (amt (L k 3))⟩]),updF bs i (σ'.nxt+1+1),rfl,by omega,rfl,q0,hI.push hm0 (by omega) (hgood _ (.inl rfl)) ?_ ?_ ?_ ?_ ?_ ?_ ?_⟩
       ·simp (disch:=omega) only [hset_ne,hdel_ne];exact hb
       ·rw [hset_get]
       ·rw [hset_ne _ _ _ _ (by omega),hset_get,hz];rfl
       ·intro b9 h9 h8 h7 h6;simp (disch:=first|assumption|omega) only [hset_ne,hdel_ne]
       ·omega
       ·omega
       ·exact fr
      ·have he:=famV_pos (l:=cl i) (by omega) (bs i)
       obtain ⟨c1,c2,c3,c4⟩:=hI.g.c i hm0 (by omega)
       simp (maxSteps:=9^9) (disch:=first|assumption|decide|omega) only [go_sem,z3,t3,t4,t10,t11,t12,t51,t52,t53,hx,ld_blk hb,hlC,he,c1,hct,sto_blk heE,heE,hw,hq]
       refine ⟨nl - (k+1),by omega,k+1,updF cl i (cl i ++ [⟨-1,.ofNat (L k 2%3),ofQ (amt (L k 3))⟩]),updF bs i (σ'.nxt+1+1),rfl,by omega,rfl,q0,hI.push hm0 (by omega) (hgood _ (.inl rfl)) ?_ ?_ ?_ ?_ ?_ ?_ ?_⟩
       ·simp (disch:=omega) only [hset_ne,hdel_ne];exact hb
       ·rw [hset_get]
       ·rw [hset_ne _ _ _ _ (by omega),hset_get];rfl
       ·intro b9 h9 h8 h7 h6;have h6:=h6 (by omega);simp (disch:=first|assumption|omega) only [hset_ne,hdel_ne]
       ·omega
       ·omega
       ·exact fr
     ·simp (maxSteps:=9^9) (disch:=first|assumption|decide|omega) only [go_sem,z3,t3,t4,t10,t11,t12,t51,t52,t53,hq,hge]
      refine ifV_dec (fun hq2=>?_) (fun hq2=>?_)
      ·have hw:=hwC ⟨-1,.ofNat (L k 2%3),ofQ (amt (L k 3))⟩
       by_cases hz:(cl i).length=0
       ·have he:famV (cl i) (bs i) = .nils:=by unfold famV;rw [if_pos hz]
        rw [hz] at hw
        simp (maxSteps:=9^9) (disch:=first|assumption|decide|omega) only [go_sem,z3,t3,t4,t10,t11,t12,t51,t52,t53,hx,ld_blk hb,hlC,he,sto_blk heE,heE,hw]
        refine ⟨nl - (k+1),by omega,k+1,updF cl i (cl i ++ [⟨-1,.ofNat (L k 2%3),ofQ (amt (L k 3))⟩]),updF bs i (σ'.nxt+1+1),rfl,by omega,rfl,q0,hI.push hm0 (by omega) (hgood _ (.inl rfl)) ?_ ?_ ?_ ?_ ?_ ?_ ?_⟩
        ·simp (disch:=omega) only [hset_ne,hdel_ne];exact hb
        ·rw [hset_get]
        ·rw [hset_ne _ _ _ _ (by omega),hset_get,hz];rfl
        ·intro b9 h9 h8 h7 h6;simp (disch:=first|assumption|omega) only [hset_ne,hdel_ne]
        ·omega
        ·omega
        ·exact fr
       ·have he:=famV_pos (l:=cl i) (by omega) (bs i)
        obtain ⟨c1,c2,c3,c4⟩:=hI.g.c i hm0 (by omega)
        simp (maxSteps:=9^9) (disch:=first|assumption|decide|omega) only [go_sem,z3,t3,t4,t10,t11,t12,t51,t52,t53,hx,ld_blk hb,hlC,he,c1,hct,sto_blk heE,heE,hw]
        refine ⟨nl - (k+1),by omega,k+1,updF cl i (cl i ++ [⟨-1,.ofNat (L k 2%3),ofQ (amt (L k 3))⟩]),updF bs i (σ'.nxt+1+1),rfl,by omega,rfl,q0,hI.push hm0 (by omega) (hgood _ (.inl rfl)) ?_ ?_ ?_ ?_ ?_ ?_ ?_⟩
        ·simp (disch:=omega) only [hset_ne,hdel_ne];exact hb
        ·rw [hset_get]
        ·rw [hset_ne _ _ _ _ (by omega),hset_get];rfl
        ·intro b9 h9 h8 h7 h6;have h6:=h6 (by omega);simp (disch:=first|assumption|omega) only [hset_ne,hdel_ne]
        ·omega
        ·omega
        ·exact fr
      ·have hw:=hwC ⟨.ofNat (L k 1%(n+1)),.ofNat (L k 2%3),ofQ (amt (L k 3))⟩
       by_cases hz:(cl i).length=0
       ·have he:famV (cl i) (bs i) = .nils:=by unfold famV;rw [if_pos hz]
        rw [hz] at hw
        simp (maxSteps:=9^9) (disch:=first|assumption|decide|omega) only [go_sem,z3,t3,t4,t10,t11,t12,t51,t52,t53,hx,ld_blk hb,hlC,he,sto_blk heE,heE,hw]
        refine ⟨nl - (k+1),by omega,k+1,updF cl i (cl i ++ [⟨.ofNat (L k 1%(n+1)),.ofNat (L k 2%3),ofQ (amt (L k 3))⟩]),updF bs i (σ'.nxt+1+1),rfl,by omega,rfl,q0,hI.push hm0 (by omega) (hgood _ (.inr ⟨_,by omega,hq,rfl⟩)) ?_ ?_ ?_ ?_ ?_ ?_ ?_⟩
        ·simp (disch:=omega) only [hset_ne,hdel_ne];exact hb
        ·rw [hset_get]
        ·rw [hset_ne _ _ _ _ (by omega),hset_get,hz];rfl
        ·intro b9 h9 h8 h7 h6;simp (disch:=first|assumption|omega) only [hset_ne,hdel_ne]
        ·omega
        ·omega
        ·exact fr
       ·have he:=famV_pos (l:=cl i) (by omega) (bs i)
        obtain ⟨c1,c2,c3,c4⟩:=hI.g.c i hm0 (by omega)
        simp (maxSteps:=9^9) (disch:=first|assumption|decide|omega) only [go_sem,z3,t3,t4,t10,t11,t12,t51,t52,t53,hx,ld_blk hb,hlC,he,c1,hct,sto_blk heE,heE,hw]
        refine ⟨nl - (k+1),by omega,k+1,updF cl i (cl i ++ [⟨.ofNat (L k 1%(n+1)),.ofNat (L k 2%3),ofQ (amt (L k 3))⟩]),updF bs i (σ'.nxt+1+1),rfl,by omega,rfl,q0,hI.push hm0 (by omega) (hgood _ (.inr ⟨_,by omega,hq,rfl⟩)) ?_ ?_ ?_ ?_ ?_ ?_ ?_⟩
        ·simp (disch:=omega) only [hset_ne,hdel_ne];exact hb
        ·rw [hset_get]
        ·rw [hset_ne _ _ _ _ (by omega),hset_get];rfl
        ·intro b9 h9 h8 h7 h6;have h6:=h6 (by omega);simp (disch:=first|assumption|omega) only [hset_ne,hdel_ne]
        ·omega
        ·omega
        ·exact fr
   ·have:k=nl:=by omega
    simp (maxSteps:=9^9) (disch:=first|assumption|decide|omega) only [go_sem,z3,true_and]
    exact ⟨cl,bs,t3,t4,t10,t11,t12,q0,hI⟩
  ·rintro _ tm σ' ⟨rfl,cl,bs,t3,t4,t10,t11,t12,q0,hI⟩
   have hlenP:=hpv.len
   simp (maxSteps:=9^9) (disch:=first|assumption|decide|omega) only [go_sem,z3,t3,hlenP]
   refine RunX.mono (Q:=fun e tm σ'=>e = .exit 4∧∃ A al,Tr.getV tm 4 = .c dv∧Tr.getV tm 10 = .c (.ptr σ.nxt 0)∧Tr.getV tm 11 = .c (.ptr (σ.nxt+1) 0)∧σ'.h σ.nxt=some ⟨[.nils,.nils],none⟩∧GI σ σ' (σ.nxt+1) n eb .nils m cl bs A al [])
    (run_loop (fun q tm σ'=>∃ k A al,q=np - k∧k≤np∧Tr.getV tm 4 = .c dv∧Tr.getV tm 10 = .c (.ptr σ.nxt 0)∧Tr.getV tm 11 = .c (.ptr (σ.nxt+1) 0)∧Tr.getV tm 12 = .c (.int .i64 (.ofNat n))∧Tr.getV tm 107 = .c pv∧Tr.getV tm 108 = .c (.int .i64 (.ofNat np))∧Tr.getV tm 109 = .c (.int .i64 (.ofNat k))∧σ'.h σ.nxt=some ⟨[.nils,.nils],none⟩∧GI σ σ' (σ.nxt+1) n eb .nils m cl bs A al []) np ?_ ?_) ?_
   ·refine ⟨0,fun _=>.nils,fun _=>[],by omega,by omega,?_⟩
    simp (maxSteps:=9^9) (disch:=first|assumption|decide|omega) only [go_sem,z3,t3,t4,t10,t11,t12,true_and]
    exact ⟨q0,hI⟩
   ·rintro q tm σ' ⟨k,A,al,rfl,hk,t4,t10,t11,t12,t107,t108,t109,q0,hI⟩
    unfold a_l0_Group_l2
    have hF:=hI.fr
    have hle:=hF.le
    have hnx:=hI.nx
    have hb:=hI.b
    have helo:=hI.g.elo
    have hehi:=hI.g.ehi
    have heE:=hI.g.e
    simp (maxSteps:=9^9) (disch:=first|assumption|decide|omega) only [go_sem,z3,t4,t10,t11,t12,t107,t108,t109,lt_ofNat]
    refine ifV_dec (fun hlt=>?_) (fun hlt=>?_)
    ·obtain ⟨b,o,c,rfl,hld⟩:=hpv.pos (by omega)
     have hld:=hF.ld hW (hld k hlt)
     have l0:=hP k 0 hlt
     have l1:=hP k 1 hlt
     have l2:=hP k 2 hlt
     have hm0:P k 0%n<n:=Nat.mod_lt _ (by omega)
     have hlA:=hI.g.ldA hm0
     have hlE:=hI.g.ldE hm0
     rw [Nat.zero_add] at hlE
     unfold estC at hlE
     have hc6:=(hI.c _ hm0).1
     have hgA:=hI.a _ hm0
     have hAa:=hI.g.a _ hm0
     generalize hx:P k 0%n=i at *
     have hAl:=hAa.choose_spec.1.len
     have hAk:=hAa.kn
     have hfl:=famV_len (cl i) (bs i)
     have hfk:=famV_kn (cl i) (bs i)
     simp (maxSteps:=9^9) (disch:=first|assumption|decide|omega) only [go_sem,z3,t4,t10,t11,t12,t107,t108,t109,hld,hx,ld_blk hb,hlA,hAl,lt_ofNat]
     refine ifV_dec (fun h2=>?_) (fun h2=>?_)
     ·simp (maxSteps:=9^9) (disch:=first|assumption|decide|omega) only [go_sem,z3,t4,t10,t11,t12,t107,t108,t109,hld,hx,ld_blk hb,hlE,hfk,hAk,lt_ofNat]
      refine CallX.st (Fr σ') (by have hFr:=Fr.refl hF.wf;exact fr) fun hF3=>?_
      refine (agree_x hF3.wf (al i) (hAa.keep (fun b hq=>hF3.old b hq.2.1) fun _ h=>h) (hgA.len (by omega)) (cl i).length hfl (by omega) rfl rfl rfl hfk _ _ _ l0 l1 l2).mono ?_
      rintro _ σ4 ⟨⟨rv,a,rfl,hr,ha,hg⟩,hf4⟩
      have hF4:=hF3.trans hf4
      have hF04:=hF.trans hF4
      have hb4:=hF4.get hF.wf hb
      have heE4:=hF4.get hF.wf heE
      have hle4:=hF4.le
      have hlE':=hF4.ld hF.wf hlE
      have hld4:=hf4.get hF3.wf (hset_get _ _ _)
      have hw:=est_wrA (m:=m) (cl:=cl) (bs:=bs) (A:=A) (rv:=rv) hm0
      simp (maxSteps:=9^9) (disch:=first|assumption|decide|omega) only [go_sem,z3,t4,t10,t11,t12,t107,t108,t109,ld_blk hb4,hb4,hlE',hld4,hfk,hAk,sto_blk heE4,hw]
      refine ⟨np - (k+1),by omega,k+1,updF A i rv,updF al i (al i ++ [a]),rfl,by omega,rfl,hF4.get hF.wf q0,hI.agr hF4 hm0 (by omega) (hr.keep (fun _ _=>rfl) fun b9 h9=>h9.imp id fun h9=>⟨by have h8:σ'.nxt+1≤b9:=h9.1;omega,h9.2⟩) ha hg ?_ ?_ ?_ (Nat.le_refl _) ?_⟩
      ·rw [hset_ne _ _ _ _ (by omega)];exact hb4
      ·rw [hset_get]
      ·intro b9 h9 h8 h7
       rw [hset_ne _ _ _ _ h7]
      ·exact fr
     ·simp (maxSteps:=9^9) (disch:=first|assumption|decide|omega) only [go_sem,z3,t4,t10,t11,t12,t107,t108,t109]
      exact ⟨np - (k+1),by omega,k+1,A,al,rfl,by omega,rfl,q0,hI.step (by have hFr:=Fr.refl hF.wf;exact fr)⟩
    ·simp (maxSteps:=9^9) (disch:=first|assumption|decide|omega) only [go_sem,z3,true_and]
     exact ⟨A,al,t4,t10,t11,q0,hI⟩
   ·rintro _ tm σ' ⟨rfl,A,al,t4,t10,t11,q0,hI⟩
    have hlenD:=hdv.len
    simp (maxSteps:=9^9) (disch:=first|assumption|decide|omega) only [go_sem,z3,t4,hlenD]
    refine RunX.mono (Q:=fun e tm σ'=>e = .exit 6∧∃ dv' dl,Tr.getV tm 10 = .c (.ptr σ.nxt 0)∧Tr.getV tm 11 = .c (.ptr (σ.nxt+1) 0)∧σ'.h σ.nxt=some ⟨[.nils,.nils],none⟩∧GI σ σ' (σ.nxt+1) n eb dv' m cl bs A al dl)
     (run_loop (fun q tm σ'=>∃ k dv' dl,q=nd - k∧k≤nd∧Tr.getV tm 10 = .c (.ptr σ.nxt 0)∧Tr.getV tm 11 = .c (.ptr (σ.nxt+1) 0)∧Tr.getV tm 139 = .c dv∧Tr.getV tm 140 = .c (.int .i64 (.ofNat nd))∧Tr.getV tm 141 = .c (.int .i64 (.ofNat k))∧σ'.h σ.nxt=some ⟨[.nils,.nils],none⟩∧GI σ σ' (σ.nxt+1) n eb dv' m cl bs A al dl) nd ?_ ?_) ?_
    ·refine ⟨0,.nils,[],by omega,by omega,?_⟩
     simp (maxSteps:=9^9) (disch:=first|assumption|decide|omega) only [go_sem,z3,t4,t10,t11,true_and]
     exact ⟨q0,hI⟩
    ·rintro q tm σ' ⟨k,dv',dl,rfl,hk,t10,t11,t139,t140,t141,q0,hI⟩
     unfold a_l0_Group_l3
     have hF:=hI.fr
     have hle:=hF.le
     have hnx:=hI.nx
     have hb:=hI.b
     have hDD:=hI.g.d
     have hDl:=hDD.choose_spec.1.len
     have hDk:=hDD.kn
     have hGG:=hI.g.grp .opn
     have hd3:=hI.d.1
     simp (maxSteps:=9^9) (disch:=first|assumption|decide|omega) only [go_sem,z3,t10,t11,t139,t140,t141,lt_ofNat]
     refine ifV_dec (fun hlt=>?_) (fun hlt=>?_)
     ·obtain ⟨b,o,c,rfl,hld⟩:=hdv.pos (by omega)
      have hld:=hF.ld hW (hld k hlt)
      have l0:=hD k 0 hlt
      have l1:=hD k 1 hlt
      have l2:=hD k 2 hlt
      simp (maxSteps:=9^9) (disch:=first|assumption|decide|omega) only [go_sem,z3,t10,t11,t139,t140,t141,hld,ld_blk hb,hDk,hDl,lt_ofNat]
      refine ifV_dec (fun h2=>?_) (fun h2=>?_)
      ·simp (maxSteps:=9^9) (disch:=first|assumption|decide|omega) only [go_sem,z3,t10,t11,t139,t140,t141,hld,ld_blk hb,hDk,hDl,lt_ofNat]
       refine CallX.st (Fr σ') (by have hFr:=Fr.refl hF.wf;exact fr) fun hF3=>?_
       have hEl:(estsOf n m cl al).length=n:=estsOf_len ..
       refine (owe_x hF3.wf (estsOf n m cl al) dl (p:=Qt (σ.nxt+1+1) σ'.nxt eb n cl bs) (ev:=.sl eb 0 n .opn) (hGG.e.keep (q:=fun _=>True) (fun b hq=>hF3.old b hq.2) fun _ _=>trivial) (hDD.keep (fun b hq=>hF3.old b hq.2.1) fun _ h=>h) ⟨by omega,fun j hj=>by have:=(hI.d.2 j hj).1;omega⟩ (by omega) (fun j hj=>?_) _ _ _ l0 l1 l2).mono ?_
       ·have hj' : j<n:=by omega
        rw [estsOf_ix m cl al hj']
        have:=(hI.c j hj').1
        show (cl j).length≤1000
        omega
       ·rintro _ σ4 ⟨⟨rv,d,rfl,hr,hd1,hd2⟩,hf4⟩
        have hF4:=hF3.trans hf4
        have hF04:=hF.trans hF4
        have hb4:=hF4.get hF.wf hb
        have hle4:=hF4.le
        simp (maxSteps:=9^9) (disch:=first|assumption|decide|omega) only [go_sem,z3,t10,t11,t139,t140,t141,sto_blk hb4]
        refine ⟨nd - (k+1),by omega,k+1,rv,dl ++ [d],rfl,by omega,rfl,hF4.get hF.wf q0,hI.dbt hF4 (by omega) (hr.keep (fun _ _=>rfl) fun b9 h9=>h9.imp id fun h9=>⟨by have h8:σ'.nxt+1≤b9:=h9.1;omega,h9.2⟩) ⟨hd1,_,hd2⟩ ?_ ?_ (Nat.le_refl _) ?_⟩
        ·rw [hset_get]
        ·intro b9 h9 h8
         rw [hset_ne _ _ _ _ (by omega)]
        ·exact fr
      ·simp (maxSteps:=9^9) (disch:=first|assumption|decide|omega) only [go_sem,z3,t10,t11,t139,t140,t141]
       exact ⟨nd - (k+1),by omega,k+1,dv',dl,rfl,by omega,rfl,q0,hI.step (by have hFr:=Fr.refl hF.wf;exact fr)⟩
     ·simp (maxSteps:=9^9) (disch:=first|assumption|decide|omega) only [go_sem,z3,true_and]
      exact ⟨dv',dl,t10,t11,q0,hI⟩
    ·rintro _ tm σ' ⟨rfl,dv',dl,t10,t11,q0,hI⟩
     have hF:=hI.fr
     have hb:=hI.b
     have hnx:=hI.nx
     have hDk:=hI.g.d.kn
     simp (maxSteps:=9^9) (disch:=first|assumption|decide|omega) only [go_sem,z3,t10,t11,ld_blk hb,hDk,sto_blk q0]
     refine ⟨eb,dv',m,cl,bs,A,al,dl,rfl,⟨?_,?_,hI.m,hI.c,hI.a,hI.d,hI.nx,hI.lo,?_⟩⟩
     ·rw [hset_ne _ _ _ _ (by omega)];exact hb
     ·exact hI.g.mono (fun b9 h9 h8=>hset_ne _ _ _ _ (by omega)) (Nat.le_refl _)
     ·exact fr
def SzG (g:Grp):Prop:=∀ i,i<g.e.length→∀ k,k<(ix g.e i).c.length→(ix (ix g.e i).c k).a.s.size+(ix (ix g.e i).c k).a.d.size≤130000000∧Sz (ix (ix g.e i).c k).a.q
section
variable {m gv n2 n3 n4 n5 n6 n7:B}
end
section
variable {m gv n2 n3 n4 n5 n6 n7:B}
end
structure LenE (k:Nat) (e:Est):Prop where
 c:e.c.length≤k
 a:e.a.length≤k
 t : ∀ j,j<e.a.length→(ix e.a j).length≤k
 p : ∀ j t,j<e.a.length→t<(ix e.a j).length→(ix (ix e.a j) t).length≤k
structure LenG (k:Nat) (g:Grp):Prop where
 e : ∀ i,i<g.e.length→LenE k (ix g.e i)
 n:g.e.length≤k
 d:g.d.length≤k
 l : ∀ j,j<g.d.length→(ix g.d j).l.length≤k
theorem LenE.up {k l:Nat} {e:Est} (h:LenE k e) (hk:k≤l):LenE l e:=⟨Nat.le_trans h.c hk,Nat.le_trans h.a hk,fun j hj=>Nat.le_trans (h.t j hj) hk,fun j t hj ht=>Nat.le_trans (h.p j t hj ht) hk⟩
theorem LenG.up {k l:Nat} {g:Grp} (h:LenG k g) (hk:k≤l):LenG l g:=⟨fun i hi=>(h.e i hi).up hk,Nat.le_trans h.n hk,Nat.le_trans h.d hk,fun j hj=>Nat.le_trans (h.l j hj) hk⟩
structure Built (σ σ' : St) (ev dv:B) (g:Grp):Prop where
 hg:HGrp (fun b=>σ.nxt≤b∧b<σ'.nxt) σ'.h ev dv g
 s:SmallG 1000000 g
 n:g.e.length≤4
 c : ∀ i,i<g.e.length→(ix g.e i).c.length≤6
 z:SzG g
 fr:Fr σ σ'
 l:LenG 8 g
theorem amt_fit (x:Nat):(ofQ (amt x)).fits 1000:=ofQ_fits ((amt_small x).mono (by omega))
theorem whole_fit {w:Nat} (h:w≤16):(ofQ ((Int.ofNat w:Int):Rat)).fits 1000:=ofQ_fits ((xsm_int (k:=3) (by show w<16777216;omega) (by decide)).mono (by omega))
theorem fits_le {r:R3} {k l:Nat} (h:r.fits k) (hkl:k≤l):r.fits l:=⟨Nat.le_trans h.1 hkl,Nat.le_trans h.2 hkl⟩
theorem OGrp.built {σ σ' : St} {dv:B} {n eb:Nat} {m:Nat→Rat} {cl:Nat→List C5} {bs:Nat→Nat} {A:Nat→B} {al:Nat→List Agr} {dl:List Dbt} {lo hi:Nat} (hg:OGrp σ'.h dv n eb m cl bs A al dl lo hi) (hn:n≤4) (hlo:σ.nxt≤lo) (hhi:hi≤σ'.nxt) (hm : ∀ i,i<n→∃ v,m i=amt v) (hc : ∀ i,i<n→(cl i).length≤6∧∀ k,k<(cl i).length→∃ v,(ix (cl i) k).a=ofQ (amt v))
  (ha : ∀ i,i<n→GoodA (cl i).length (al i)) (hd:dl.length≤3∧∀ j,j<dl.length→(ix dl j).l.length≤4∧∃ v,(ix dl j).w=ofQ (amt v)) (hf:Fr σ σ'):Built σ σ' (.sl eb 0 n .opn) dv ⟨estsOf n m cl al,dl⟩:=by
 have hlen:(estsOf n m cl al).length=n:=estsOf_len ..
 refine ⟨(hg.grp .opn).keep (fun _ _=>rfl) fun b hb=>⟨by have:=hb.1;omega,by have:=hb.2;omega⟩,⟨fun i hi=>?_,fun i hi=>?_,by show _≤_;rw [hlen];omega,by show dl.length≤_;have:=hd.1;omega,fun i hi=>by have:=(hd.2 i hi).1;show (ix dl i).l.length≤_;omega⟩,by show _≤_;rw [hlen];exact hn,fun i hi=>?_,fun i hi k hk=>?_,hf,⟨fun i hi=>?_,by show _≤_;rw [hlen];omega,by show dl.length≤_;have:=hd.1;omega,fun j hj=>by have:=(hd.2 j hj).1;show (ix dl j).l.length≤_;omega⟩⟩
 ·have hi:i<n:=by rw [← hlen];exact hi
  show SmallE _ (ix (estsOf n m cl al) i)
  rw [estsOf_ix m cl al hi]
  obtain ⟨a1,a2⟩:=ha i hi
  refine ⟨?_,fun k hk=>?_,fun j t p hj ht hp=>?_,by show (cl i).length≤_;have:=(hc i hi).1;omega,by show (al i).length≤_;omega,fun j hj=>by have:=(a2 j hj).1;show (ix (al i) j).length≤_;omega,fun j t hj ht=>?_⟩
  ·obtain ⟨v,e⟩:=hm i hi
   show (ofQ (m i)).fits _
   rw [e];exact fits_le (amt_fit v) (by omega)
  ·obtain ⟨v,e⟩:=(hc i hi).2 k hk
   rw [e];exact fits_le (amt_fit v) (by omega)
  ·have hj:j<(al i).length:=hj
   have ht:t<(ix (al i) j).length:=ht
   obtain ⟨w,hw,e⟩:=(((a2 j hj).2 t (by have:=(a2 j hj).1;omega)).1 p hp).2
   rw [e];exact fits_le (whole_fit hw) (by omega)
  ·have hj:j<(al i).length:=hj
   have ht:t<(ix (al i) j).length:=ht
   have h9:=((a2 j hj).2 t (by have:=(a2 j hj).1;omega)).2
   have:=(hc i hi).1
   show (ix (ix (al i) j) t).length≤_
   omega
 ·obtain ⟨-,v,e⟩:=hd.2 i hi
  rw [e];exact fits_le (amt_fit v) (by omega)
 ·have hi:i<n:=by rw [← hlen];exact hi
  show (ix (estsOf n m cl al) i).c.length≤6
  rw [estsOf_ix m cl al hi];exact (hc i hi).1
 ·have hi:i<n:=by rw [← hlen];exact hi
  have hk:k<(ix (estsOf n m cl al) i).c.length:=hk
  show (ix (ix (estsOf n m cl al) i).c k).a.s.size+(ix (ix (estsOf n m cl al) i).c k).a.d.size≤_∧Sz (ix (ix (estsOf n m cl al) i).c k).a.q
  rw [estsOf_ix m cl al hi] at hk ⊢
  obtain ⟨v,e⟩:=(hc i hi).2 k hk
  show (ix (cl i) k).a.s.size+(ix (cl i) k).a.d.size≤_∧Sz (ix (cl i) k).a.q
  rw [e,ofQ_q]
  exact ⟨(amt_sz v).two,amt_sz v⟩
 ·have hi:i<n:=by rw [← hlen];exact hi
  show LenE 8 (ix (estsOf n m cl al) i)
  rw [estsOf_ix m cl al hi]
  obtain ⟨a1,a2⟩:=ha i hi
  have hc6:=(hc i hi).1
  refine ⟨by show (cl i).length≤_;omega,by show (al i).length≤_;omega,fun j hj=>by have:=(a2 j hj).1;show (ix (al i) j).length≤_;omega,fun j t hj ht=>?_⟩
  have hj:j<(al i).length:=hj
  have ht:t<(ix (al i) j).length:=ht
  have:=((a2 j hj).2 t (by have:=(a2 j hj).1;omega)).2
  show (ix (ix (al i) j) t).length≤_
  omega
theorem SmallG.up {k l:Nat} {g:Grp} (h:SmallG k g) (hk:k≤l):SmallG l g :=
 ⟨fun i hi=>⟨fits_le (h.e i hi).m hk,fun j hj=>fits_le ((h.e i hi).c j hj) hk,fun a b c ha hb hc=>fits_le ((h.e i hi).a a b c ha hb hc) hk,(h.e i hi).lc,(h.e i hi).la,(h.e i hi).lt,(h.e i hi).lp⟩,fun i hi=>fits_le (h.w i hi) hk,h.le,h.ld,h.ll⟩
theorem ix_map_range {α:Type} [Inhabited α] (f:Nat→α) {n i:Nat} (h:i<n):ix ((List.range n).map f) i=f i:=by
 rw [ix_lt (by simpa using h)];simp
structure GR (C:B→List B) (σ σ' : St) (t12 i:Nat) (gvv:B) (R:Nat→B) (ns:Nat→Nat) (M:Nat→Nat→Nat):Prop where
 b:σ'.h t12=some ⟨C gvv,none⟩
 v:(i=0∧gvv = .nils)∨∃ b,gvv = .sl b 0 i .opn∧0<i∧σ'.h b=some ⟨ones i R,some (1,32)⟩∧t12+1≤b∧b<σ'.nxt∧∀ j,j<i→HLp (fun x=>t12+1≤x∧x<b) σ'.h 3 (R j) (min (ns j) 8) fun k=>ratC (amt (M j k))
 nx:t12+1≤σ'.nxt
 fr:Fr σ σ'
end Go.Proofs.Xe
