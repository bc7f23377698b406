/- dR.ZR, in the dF words. -/
import Derived.Test.YtjonjhcaniinaaaGreatDoorZ33
set_option linter.all false
set_option maxHeartbeats 8000000
namespace Go.Proofs.Xe
open Go.RowKit Go.Proofs.Ins
def AV (n i:Nat) (x:C5):Prop:=(x.h = -1∨∃ j:Nat,j<n∧j≠i∧x.h=(j:Int))∧(∃ r:Nat,r≤7∧x.r=(r:Int))∧∃ v,x.a=uo (amt v)
def DZ (nc:Nat) (al:List fK):Prop:=al.length≤2∧∀ j,j<al.length→(ix al j).length=3∧∀ t,t<3→AU nc (al.take j) (ix (ix al j) t)∧(ix (ix al j) t).length≤nc+1
section
variable {h h' : Tr Bk} {dv:B} {n eb:Nat} {m:Nat→Rat} {cl:Nat→List C5} {bs:Nat→Nat} {A:Nat→B} {al:Nat→List fK} {dl:List oV} {lo hi:Nat}
theorem an3 {i nx:Nat} (hi:i<n) (x:C5):uT (bH n (pI m cl bs A)) (i*5+3) [.sl nx 0 ((cl i).length+1) .opn]=some (bH n (pI m (aK cl i (cl i ++ [x])) (aK bs i nx) A)):=by
 rw [yU (e:=5) (fun _=>rfl) hi kc]
 show some _=some _
 congr 1
 refine dA fun j hj=>?_
 unfold jd
 by_cases e:j=i
 ·subst e
  rw [if_pos rfl]
  unfold pI
  rw [aH,aH,iO (l:=cl j ++ [x]) kc,List.length_append];rfl
 ·rw [if_neg e]
  unfold pI
  rw [aJ _ _ _ _ e,aJ _ _ _ _ e]
theorem ajE {i:Nat} {rv:B} (hi:i<n):uT (bH n (pI m cl bs A)) (i*5+4) [rv]=some (bH n (pI m cl bs (aK A i rv))):=by
 rw [yU (e:=5) (fun _=>rfl) hi kc]
 show some _=some _
 congr 1
 refine dA fun j hj=>?_
 unfold jd
 by_cases e:j=i
 ·subst e
  rw [if_pos rfl]
  unfold pI
  rw [aH];rfl
 ·rw [if_neg e]
  unfold pI
  rw [aJ _ _ _ _ e]
theorem qE.push (ho:qE h dv n eb m cl bs A al dl lo hi) {i nx:Nat} (hi' : i<n) (x:C5) (hnx:hi≤nx) {hi2:Nat} (h2:nx<hi2) (he:h' eb=some ⟨bH n (pI m (aK cl i (cl i ++ [x])) (aK bs i nx) A),some (5,59)⟩)
  (hx:h' nx=some ⟨bH (cl i).length (clC (cl i)) ++ c5B x,some (5,64)⟩) (hb : ∀ b,lo≤b→b<hi→b≠eb→(0<(cl i).length→b≠bs i)→h' b=h b):qE h' dv n eb m (aK cl i (cl i ++ [x])) (aK bs i nx) A al dl lo hi2:=by
 have hq : ∀ b,Qt lo hi eb n cl bs b→Qt lo hi2 eb n (aK cl i (cl i ++ [x])) (aK bs i nx) b:=fun b q=>⟨q.1,by have:=q.2.1;omega,q.2.2.1,fun j hj hp=>by
  by_cases e:j=i
  ·subst e;rw [aH];have:=q.2.1;omega
  ·rw [aJ _ _ _ _ e] at hp ⊢;exact q.2.2.2 j hj hp⟩
 have hk : ∀ b,Qt lo hi eb n cl bs b→h' b=h b:=fun b q=>hb b q.1 q.2.1 q.2.2.1 fun hp=>q.2.2.2 i hi' hp
 have hlo:=ho.elo
 have hhi:=ho.ehi
 refine ⟨he,ho.elo,jb,fun j hj hp=>?_,fun a b ha hb' pa pb e=>?_,fun j hj=>(ho.a j hj).keep hk hq,ho.d.keep hk hq⟩
 ·by_cases e:j=i
  ·subst e
   rw [aH,aH,List.length_append,List.length_singleton]
   refine ⟨?_,jb,h2,jb⟩
   rw [hx,jF]
   congr 2
   refine dA fun k hk=>?_
   unfold jd clC
   split
   ·next e=>rw [e,fO]
   ·rw [fM _ _ jb]
  ·rw [aJ _ _ _ _ e] at hp ⊢
   rw [aJ _ _ _ _ e]
   obtain ⟨k1,k2,k3,k4⟩:=ho.c j hj hp
   exact ⟨by rw [hb _ k2 k3 k4 fun hp2 e2=>e (ho.inj j i hj hi' hp hp2 e2)];exact k1,k2,jb,k4⟩
 ·by_cases e1:a=i
  ·by_cases e2:b=i
   ·rw [e1,e2]
   ·rw [e1,aH,aJ _ _ _ _ e2] at e
    rw [aJ _ _ _ _ e2] at pb
    have:=(ho.c b hb' pb).2.2.1
    omega
  ·by_cases e2:b=i
   ·rw [e2,aH,aJ _ _ _ _ e1] at e
    rw [aJ _ _ _ _ e1] at pa
    have:=(ho.c a ha pa).2.2.1
    omega
   ·rw [aJ _ _ _ _ e1] at pa
    rw [aJ _ _ _ _ e2] at pb
    rw [aJ _ _ _ _ e1,aJ _ _ _ _ e2] at e
    exact ho.inj a b ha hb' pa pb e
theorem qE.asP (ho:qE h dv n eb m cl bs A al dl lo hi) {i:Nat} (hi' : i<n) {rv:B} {l:List fK} {hi2:Nat} (h2:hi≤hi2) (he:h' eb=some ⟨bH n (pI m cl bs (aK A i rv)),some (5,59)⟩)
  (hb : ∀ b,lo≤b→b<hi→b≠eb→h' b=h b) (hr:iF (Qt lo hi2 eb n cl bs) h' rv l):qE h' dv n eb m cl bs (aK A i rv) (aK al i l) dl lo hi2:=by
 have hq : ∀ b,Qt lo hi eb n cl bs b→Qt lo hi2 eb n cl bs b:=fun b q=>⟨q.1,by have:=q.2.1;omega,q.2.2⟩
 have hk : ∀ b,Qt lo hi eb n cl bs b→h' b=h b:=fun b q=>hb b q.1 q.2.1 q.2.2.1
 refine ⟨he,ho.elo,by have:=ho.ehi;omega,fun j hj hp=>?_,ho.inj,fun j hj=>?_,ho.d.keep hk hq⟩
 ·obtain ⟨k1,k2,k3,k4⟩:=ho.c j hj hp
  exact ⟨by rw [hb _ k2 k3 k4];exact k1,k2,jb,k4⟩
 ·by_cases e:j=i
  ·subst e;rw [aH,aH];exact hr
  ·rw [aJ _ _ _ _ e,aJ _ _ _ _ e];exact (ho.a j hj).keep hk hq
theorem qE.asQ (ho:qE h dv n eb m cl bs A al dl lo hi) {X9 : B} {l:List oV} {hi2:Nat} (h2:hi≤hi2) (hb : ∀ b,lo≤b→b<hi→h' b=h b) (hr:iR (Qt lo hi2 eb n cl bs) h' X9 l):qE h' X9 n eb m cl bs A al l lo hi2:=by
 have:=ho.mono hb h2
 exact ⟨this.e,this.elo,this.ehi,this.c,this.inj,this.a,hr⟩
theorem iF.none (p:Nat→Prop) (h:Tr Bk):iF p h .aY []:=⟨fun _=>.aY,.inl ⟨rfl,rfl⟩,fun i hi=>by simp at hi⟩
theorem iR.none (p:Nat→Prop) (h:Tr Bk):iR p h .aY []:=⟨fun _=>.aY,.inl ⟨rfl,rfl⟩,fun i hi=>by simp at hi⟩
theorem qE.start (he:h eb=some ⟨bH n (pI m (fun _=>[]) (fun _=>0) (fun _=>.aY)),some (5,59)⟩) (h1:lo≤eb) (h2:eb<hi):qE h .aY n eb m (fun _=>[]) (fun _=>0) (fun _=>.aY) (fun _=>[]) [] lo hi :=
 ⟨he,h1,h2,fun i _ hp=>by simp at hp,fun i j _ _ hp=>by simp at hp,fun _ _=>iF.none _ _,iR.none _ _⟩
theorem ajF (l:List C5):(bH l.length (clC l)).take (l.length*5)=bH l.length (clC l):=wO fun _=>rfl
theorem an4 (l:List C5):l.length*5≤(bH l.length (clC l)).length:=by rw [pW (e:=5) fun _=>rfl];exact jp
theorem AV.snoc {i:Nat} {l:List C5} {x:C5} (hl : ∀ k,k<l.length→AV n i (ix l k)) (hx:AV n i x) : ∀ k,k<(l ++ [x]).length→AV n i (ix (l ++ [x]) k):=fun k hk=>by
 rw [List.length_append,List.length_singleton] at hk
 by_cases e:k=l.length
 ·rw [e,fO];exact hx
 ·rw [fM _ _ jb];exact hl k jb
end
structure GI (σ σ' : St) (t11 n eb:Nat) (dv:B) (mm:Nat→Rat) (cl:Nat→List C5) (bs:Nat→Nat) (A:Nat→B) (al:Nat→List fK) (dl:List oV):Prop where
 b:σ'.h t11=some ⟨[.sl eb 0 n .opn,dv],none⟩
 g:qE σ'.h dv n eb mm cl bs A al dl (t11+1) σ'.ah
 m : ∀ i,i<n→∃ v,mm i=amt v
 c : ∀ i,i<n→(cl i).length≤6∧∀ k,k<(cl i).length→AV n i (ix (cl i) k)
 a : ∀ i,i<n→DZ (cl i).length (al i)
 d:dl.length≤3∧∀ j,j<dl.length→(ix dl j).l.length≤4∧∃ v,(ix dl j).w=uo (amt v)
 nx:t11+1≤σ'.ah
 lo:σ.ah≤t11
 fr:Fr σ σ'
 dg : ∀ j,j<dl.length→LGf (jc n mm cl al) (dl.take j) (ix dl j).l
theorem GI.step {σ σ' σ3:St} {t11 n eb:Nat} {dv:B} {m:Nat→Rat} {cl:Nat→List C5} {bs:Nat→Nat} {A:Nat→B} {al:Nat→List fK} {dl:List oV} (hI:GI σ σ' t11 n eb dv m cl bs A al dl) (hf:Fr σ' σ3):GI σ σ3 t11 n eb dv m cl bs A al dl:=by
 have hn:=hI.nx
 have hle:=hf.le
 exact ⟨by rw [hf.old _ jb];exact hI.b,hI.g.mono (fun b _ hb=>hf.old b hb) hle,hI.m,hI.c,hI.a,hI.d,jb,hI.lo,hI.fr.trans hf,hI.dg⟩
theorem GI.push {σ σ' : St} {t11 n eb:Nat} {dv:B} {m:Nat→Rat} {cl:Nat→List C5} {bs:Nat→Nat} (hI:GI σ σ' t11 n eb dv m cl bs (fun _=>.aY) (fun _=>[]) []) {i nx n' : Nat} {x:C5} {h' : Tr Bk} (hi:i<n) (hl:(cl i).length≤5) (hx:AV n i x) (hb:h' t11=some ⟨[.sl eb 0 n .opn,dv],none⟩)
  (he:h' eb=some ⟨bH n (pI m (aK cl i (cl i ++ [x])) (aK bs i nx) (fun _=>.aY)),some (5,59)⟩) (hc:h' nx=some ⟨bH (cl i).length (clC (cl i)) ++ c5B x,some (5,64)⟩)
  (ho : ∀ b,t11+1≤b→b<σ'.ah→b≠eb→(0<(cl i).length→b≠bs i)→h' b=σ'.h b) (hn:σ'.ah≤nx) (hn' : nx<n') (hf:Fr σ ⟨h',n'⟩):GI σ ⟨h',n'⟩ t11 n eb dv m (aK cl i (cl i ++ [x])) (aK bs i nx) (fun _=>.aY) (fun _=>[]) []:=by
 have hn0:=hI.nx
 refine ⟨hb,hI.g.push hi x hn hn' he hc ho,hI.m,fun j hj=>?_,fun j hj=>⟨Nat.zero_le _,fun k hk=>by simp at hk⟩,hI.d,by show _≤n';omega,hI.lo,hf,fun j hj=>by simp at hj⟩
 by_cases e:j=i
 ·subst e
  rw [aH,List.length_append,List.length_singleton]
  refine ⟨jb,fun k hk=>?_⟩
  exact AV.snoc (hI.c j hj).2 hx k (by rw [List.length_append,List.length_singleton];exact hk)
 ·rw [aJ _ _ _ _ e];exact hI.c j hj
theorem DZ.len {nc:Nat} {al:List fK} (h:DZ nc al) (hn:nc≤10):anj al:=⟨by have:=h.1;omega,fun j hj=>by
 obtain ⟨h1,h2⟩:=h.2 j hj
 exact ⟨jb,fun t ht=>by have:=(h2 t jb).2;omega⟩⟩
theorem DZ.snoc {nc:Nat} {al:List fK} {a:fK} (h:DZ nc al) (h1:al.length≤1) (ha:a.length=3) (hg : ∀ t,t<3→AU nc al (ix a t)∧(ix a t).length≤nc+1):DZ nc (al ++ [a]):=by
 refine ⟨by simp;omega,fun j hj=>?_⟩
 rw [List.length_append,List.length_singleton] at hj
 by_cases e:j=al.length
 ·subst e
  rw [fO,List.take_left']
  ·exact ⟨ha,hg⟩
  ·rfl
 ·rw [fM _ _ jb,List.take_append_of_le_length jb]
  exact h.2 j jb
theorem GI.agr {σ σ' σ3:St} {t11 n eb:Nat} {dv:B} {m:Nat→Rat} {cl:Nat→List C5} {bs:Nat→Nat} {A:Nat→B} {al:Nat→List fK} {dl:List oV} (hI:GI σ σ' t11 n eb dv m cl bs A al dl) (hf3:Fr σ' σ3) (h0:dl=[]) {i n' : Nat} {rv:B} {a:fK} {h' : Tr Bk} (hi:i<n) (h1:(al i).length≤1)
  (hr:iF (fun b=>Qt (t11+1) σ'.ah eb n cl bs b∨σ'.ah≤b∧b<σ3.ah) σ3.h rv (al i ++ [a])) (ha:a.length=3) (hg : ∀ t,t<3→AU (cl i).length (al i) (ix a t)∧(ix a t).length≤(cl i).length+1)
  (hb:h' t11=some ⟨[.sl eb 0 n .opn,dv],none⟩) (he:h' eb=some ⟨bH n (pI m cl bs (aK A i rv)),some (5,59)⟩) (ho : ∀ b,t11+1≤b→b<σ3.ah→b≠eb→h' b=σ3.h b) (hn:σ3.ah≤n') (hf:Fr σ ⟨h',n'⟩):GI σ ⟨h',n'⟩ t11 n eb dv m cl bs (aK A i rv) (aK al i (al i ++ [a])) dl:=by
 have hn0:=hI.nx
 have hle:=hf3.le
 have an5:=hI.g.ehi
 refine ⟨hb,(hI.g.mono (fun b _ hb=>hf3.old b hb) hle).asP hi hn he (fun b b1 b2 b3=>ho b b1 b2 b3) (hr.keep (fun b hq=>?_) fun b hq=>?_),hI.m,hI.c,fun j hj=>?_,hI.d,by show _≤n';omega,hI.lo,hf,fun j hj=>by rw [h0] at hj;simp at hj⟩
 ·rcases hq with hq|hq
  ·exact ho b hq.1 (by have:=hq.2.1;omega) hq.2.2.1
  ·exact ho b (by omega) hq.2 (by omega)
 ·rcases hq with hq|hq
  ·exact ⟨hq.1,show b<n' by have:=hq.2.1;omega,hq.2.2⟩
  ·obtain ⟨h8,h9⟩:=hq
   exact ⟨by omega,show b<n' by omega,by omega,fun j hj hp=>by have:=(hI.g.c j hj hp).2.2.1;omega⟩
 ·by_cases e:j=i
  ·subst e;rw [aH];exact (hI.a j hj).snoc h1 ha hg
  ·rw [aJ _ _ _ _ e];exact hI.a j hj
theorem GI.dbt {σ σ' σ3:St} {t11 n eb:Nat} {dv:B} {m:Nat→Rat} {cl:Nat→List C5} {bs:Nat→Nat} {A:Nat→B} {al:Nat→List fK} {dl:List oV} (hI:GI σ σ' t11 n eb dv m cl bs A al dl) (hf3:Fr σ' σ3) {n' : Nat} {rv:B} {d:oV} {h' : Tr Bk} (h1:dl.length≤2)
  (hr:iR (fun b=>Qt (t11+1) σ'.ah eb n cl bs b∨σ'.ah≤b∧b<σ3.ah) σ3.h rv (dl ++ [d])) (hd:d.l.length≤4∧∃ v,d.w=uo (amt v)) (hdg:LGf (jc n m cl al) dl d.l)
  (hb:h' t11=some ⟨[.sl eb 0 n .opn,rv],none⟩) (ho : ∀ b,t11+1≤b→b<σ3.ah→h' b=σ3.h b) (hn:σ3.ah≤n') (hf:Fr σ ⟨h',n'⟩):GI σ ⟨h',n'⟩ t11 n eb rv m cl bs A al (dl ++ [d]):=by
 have hn0:=hI.nx
 have hle:=hf3.le
 have an5:=hI.g.ehi
 refine ⟨hb,(hI.g.mono (fun b _ hb=>hf3.old b hb) hle).asQ hn (fun b b1 b2=>ho b b1 b2) (hr.keep (fun b hq=>?_) fun b hq=>?_),hI.m,hI.c,hI.a,⟨by simp;omega,fun j hj=>?_⟩,by show _≤n';omega,hI.lo,hf,fun j hj=>?_⟩
 ·rcases hq with hq|hq
  ·exact ho b hq.1 (by have:=hq.2.1;omega)
  ·exact ho b (by omega) hq.2
 ·rcases hq with hq|hq
  ·exact ⟨hq.1,show b<n' by have:=hq.2.1;omega,hq.2.2⟩
  ·obtain ⟨h8,h9⟩:=hq
   exact ⟨by omega,show b<n' by omega,by omega,fun j hj hp=>by have:=(hI.g.c j hj hp).2.2.1;omega⟩
 ·rw [List.length_append,List.length_singleton] at hj
  by_cases e:j=dl.length
  ·rw [e,fO];exact hd
  ·rw [fM _ _ (by omega)];exact hI.d.2 j (by omega)
 ·rw [List.length_append,List.length_singleton] at hj
  by_cases e:j=dl.length
  ·rw [e,fO,List.take_left' rfl];exact hdg
  ·rw [fM _ _ (by omega),List.take_append_of_le_length (by omega)];exact hI.dg j (by omega)
theorem Lr:amt 0=0:=by
 rw [Yx jj]
 show ((0:Int):Rat)/((1:Int):Rat)=0
 grind
structure G0 (σ σ' : St) (t11 i:Nat) (ev:B) (m:Nat→Rat):Prop where
 b:σ'.h t11=some ⟨[ev,.aY],none⟩
 e:(i=0∧ev = .aY)∨∃ eb,ev = .sl eb 0 i .opn∧0<i∧σ'.h eb=some ⟨bH i (pI m (fun _=>[]) (fun _=>0) (fun _=>.aY)),some (5,59)⟩∧t11+1≤eb∧eb<σ'.ah
 m : ∀ j,j<i→∃ v,m j=amt v
 nx:t11+1≤σ'.ah
 fr:Fr σ σ'
theorem agp (i:Nat) (m:Nat→Rat) (cl:Nat→List C5) (bs:Nat→Nat) (A:Nat→B):(bH i (pI m cl bs A)).take (i*5)=bH i (pI m cl bs A):=wO fun _=>rfl
theorem ajG (i:Nat) (m:Nat→Rat) (cl:Nat→List C5) (bs:Nat→Nat) (A:Nat→B):i*5≤(bH i (pI m cl bs A)).length:=by rw [pW (e:=5) fun _=>rfl];exact jp
theorem G0.push {σ σ' : St} {t11 i:Nat} {ev:B} {m:Nat→Rat} (hG:G0 σ σ' t11 i ev m) {q:Rat} (hq : ∃ v,q=amt v) {h' : Tr Bk} {nx n' : Nat} (hb:h' t11=some ⟨[.sl nx 0 (i+1) .opn,.aY],none⟩)
  (hx:h' nx=some ⟨bH i (pI m (fun _=>[]) (fun _=>0) (fun _=>.aY)) ++ [.bool (rn q),.str (rs q),.str (rd q),.aY,.aY],some (5,59)⟩) (hn:σ'.ah≤nx) (hn' : nx<n') (hf:Fr σ ⟨h',n'⟩):G0 σ ⟨h',n'⟩ t11 (i+1) (.sl nx 0 (i+1) .opn) (aK m i q):=by
 have hn0:=hG.nx
 refine ⟨hb,.inr ⟨nx,rfl,jb,?_,jb,hn'⟩,fun j hj=>?_,by show _≤n';omega,hf⟩
 ·show h' nx=_
  rw [hx,jF]
  congr 2
  refine dA fun j hj=>?_
  unfold jd pI
  by_cases e:j=i
  ·rw [if_pos e,e,aH];rfl
  ·rw [if_neg e,aJ _ _ _ _ e]
 ·unfold aK
  split
  ·exact hq
  ·exact hG.m j jb
set_option maxRecDepth 10000 in
theorem ajH {σ:St} (hW:WF σ) {nm U8 nl np nd:Nat} (hnm:nm≤255) {cv lv pv dv:B} (M:Nat→Nat) (L P D:Nat→Nat→Nat) (hcv:HL σ.h 1 cv U8 fun i=>[.int .u16 (.ofNat (M i))]) (hM : ∀ i,i<U8→M i≤65535)
  (hlv:HL σ.h 4 lv nl fun i=>[.int .u16 (.ofNat (L i 0)),.int .u16 (.ofNat (L i 1)),.int .u16 (.ofNat (L i 2)),.int .u16 (.ofNat (L i 3))]) (hL : ∀ i j,i<nl→L i j≤65535) (hnl:nl≤9223372036854775806)
  (hpv:HL σ.h 3 pv np fun i=>[.int .u16 (.ofNat (P i 0)),.int .u16 (.ofNat (P i 1)),.int .u16 (.ofNat (P i 2))]) (hP : ∀ i j,i<np→P i j≤65535) (hnp:np≤9223372036854775806)
  (hdv:HL σ.h 3 dv nd fun i=>[.int .u16 (.ofNat (D i 0)),.int .u16 (.ofNat (D i 1)),.int .u16 (.ofNat (D i 2))]) (hD : ∀ i j,i<nd→D i j≤65535) (hnd:nd≤9223372036854775806) :
  aO EN 7 [.c (.int .u8 (.ofNat nm)),.c cv,.c lv,.c pv,.c dv] σ fun r σ'=>∃ eb X9 m cl bs A al dl,r = .agg [.sl eb 0 (1+nm%4) .opn,X9]∧GI σ σ' (σ.ah+1) (1+nm%4) eb X9 m cl bs A al dl:=by
 refine bF (Bz.o _ _) Bz.h ?_
 unfold Bz
 dsimp only
 simp (maxSteps:=9^9) (disch:=try exact jz) only [go_sem,z3]
 have hs1:1≤1+nm%4:=jb
 have hs4:1+nm%4≤4:=jb
 generalize 1+nm%4=n at *
 refine bM.mono (Q:=fun e tm σ'=>e = .exit 0∧∃ ev m,Tr.aj tm 2 = .c lv∧Tr.aj tm 3 = .c pv∧Tr.aj tm 4 = .c dv∧Tr.aj tm 10 = .c (.ptr σ.ah 0)∧Tr.aj tm 11 = .c (.ptr (σ.ah+1) 0)∧Tr.aj tm 12 = .c (.int .i64 (.ofNat n))∧σ'.h σ.ah=some ⟨[.aY,.aY],none⟩∧G0 σ σ' (σ.ah+1) n ev m)
  (aN (fun q tm σ'=>∃ i ev m,q=n - i∧i≤n∧Tr.aj tm 1 = .c cv∧Tr.aj tm 2 = .c lv∧Tr.aj tm 3 = .c pv∧Tr.aj tm 4 = .c dv∧Tr.aj tm 10 = .c (.ptr σ.ah 0)∧Tr.aj tm 11 = .c (.ptr (σ.ah+1) 0)∧Tr.aj tm 12 = .c (.int .i64 (.ofNat n))∧Tr.aj tm 13 = .c (.int .i64 (.ofNat i))
   ∧ σ'.h σ.ah=some ⟨[.aY,.aY],none⟩∧G0 σ σ' (σ.ah+1) i ev m) n ?_ ?_) ?_
 ·refine ⟨0,.aY,fun _=>0,jb,jb,?_⟩
  simp (maxSteps:=9^9) (disch:=try exact jz) only [go_sem,z3,true_and]
  refine ⟨?_,.inl ⟨rfl,rfl⟩,fun j hj=>jb,?_,?_⟩
  ·rw [aA]
  ·show σ.ah+1+1≤σ.ah+1+1;omega
  ·exact fr
 ·rintro q tm σ' ⟨i,ev,m,rfl,hi,t1,t2,t3,t4,t10,t11,t12,t13,q0,hG⟩
  have hF:=hG.fr
  have hle:=hF.le
  have hnx:=hG.nx
  have hb:=hG.b
  have hlen:=hcv.len
  simp (maxSteps:=9^9) (disch:=try exact jz) only [go_sem,z3,t1,t2,t3,t4,t10,t11,t12,t13,aP]
  refine aI (fun hlt=>?_) (fun hlt=>?_)
  ·simp (maxSteps:=9^9) (disch:=try exact jz) only [go_sem,z3,t1,t2,t3,t4,t10,t11,t12,t13,hlen,aP]
   have hel:=ajG i m (fun _=>[]) (fun _=>0) (fun _=>.aY)
   have het:=agp i m (fun _=>[]) (fun _=>0) (fun _=>.aY)
   refine aI (fun hc=>?_) (fun hc=>?_)
   ·obtain ⟨b,o,c,rfl,hld⟩:=hcv.one jb
    have hld:=hF.ld hW (hld i hc)
    have hbl:=hF.wf.eU hld
    have hMi:=hM i hc
    rcases hG.e with ⟨rfl,rfl⟩|⟨eb,rfl,hi0,k1,k2,k3⟩
    ·simp (maxSteps:=9^9) (disch:=try exact jz) only [go_sem,z3,t1,t2,t3,t4,t10,t11,t12,t13,hld,au hb,hb]
     refine ⟨n - (1),jb,1,_,aK m 0 (amt (M 0)),rfl,jb,rfl,q0,hG.push (nx:=σ'.ah+1+1) ⟨_,rfl⟩ ?_ ?_ ?_ ?_ ?_⟩
     ·rw [aA]
     ·rw [ak _ _ _ _ jb,aA] <;> rfl
     ·omega
     ·omega
     ·exact fr
    ·simp (maxSteps:=9^9) (disch:=try exact jz) only [go_sem,z3,t1,t2,t3,t4,t10,t11,t12,t13,hld,au hb,hb,k1,het]
     refine ⟨n - (i+1),jb,i+1,_,aK m i (amt (M i)),rfl,jb,rfl,q0,hG.push (nx:=σ'.ah+1+1) ⟨_,rfl⟩ ?_ ?_ ?_ ?_ ?_⟩
     ·rw [aA]
     ·rw [ak _ _ _ _ jb,aA] <;> rfl
     ·omega
     ·omega
     ·exact fr
   ·rcases hG.e with ⟨rfl,rfl⟩|⟨eb,rfl,hi0,k1,k2,k3⟩
    ·simp (maxSteps:=9^9) (disch:=try exact jz) only [go_sem,z3,t1,t2,t3,t4,t10,t11,t12,t13,au hb,hb]
     refine ⟨n - (1),jb,1,_,aK m 0 (0),rfl,jb,rfl,q0,hG.push (nx:=σ'.ah+1+1) ⟨0,Lr.symm⟩ ?_ ?_ ?_ ?_ ?_⟩
     ·rw [aA]
     ·rw [ak _ _ _ _ jb,aA] <;> rfl
     ·omega
     ·omega
     ·exact fr
    ·simp (maxSteps:=9^9) (disch:=try exact jz) only [go_sem,z3,t1,t2,t3,t4,t10,t11,t12,t13,au hb,hb,k1,het]
     refine ⟨n - (i+1),jb,i+1,_,aK m i (0),rfl,jb,rfl,q0,hG.push (nx:=σ'.ah+1+1) ⟨0,Lr.symm⟩ ?_ ?_ ?_ ?_ ?_⟩
     ·rw [aA]
     ·rw [ak _ _ _ _ jb,aA] <;> rfl
     ·omega
     ·omega
     ·exact fr
  ·have:i=n:=jb
   subst this
   simp (maxSteps:=9^9) (disch:=try exact jz) only [go_sem,z3,t1,true_and]
   exact ⟨ev,m,t2,t3,t4,t10,t11,t12,q0,hG⟩
 ·rintro _ tm σ' ⟨rfl,ev,m,t2,t3,t4,t10,t11,t12,q0,hG⟩
  have hlenL:=hlv.len
  obtain ⟨eb,rfl,hn0,k1,k2,k3⟩:=hG.e.resolve_left jb
  have hG1:GI σ σ' (σ.ah+1) n eb .aY m (fun _=>[]) (fun _=>0) (fun _=>.aY) (fun _=>[]) [] :=
   ⟨hG.b,qE.start k1 k2 k3,hG.m,fun i hi=>⟨Nat.zero_le _,fun k hk=>by simp at hk⟩,fun i hi=>⟨Nat.zero_le _,fun j hj=>by simp at hj⟩,⟨Nat.zero_le _,fun j hj=>by simp at hj⟩,hG.nx,jb,hG.fr,fun j hj=>by simp at hj⟩
  simp (maxSteps:=9^9) (disch:=try exact jz) only [go_sem,z3,t2,hlenL]
  refine bM.mono (Q:=fun e tm σ'=>e = .exit 2∧∃ cl bs,Tr.aj tm 3 = .c pv∧Tr.aj tm 4 = .c dv∧Tr.aj tm 10 = .c (.ptr σ.ah 0)∧Tr.aj tm 11 = .c (.ptr (σ.ah+1) 0)∧Tr.aj tm 12 = .c (.int .i64 (.ofNat n))∧σ'.h σ.ah=some ⟨[.aY,.aY],none⟩∧GI σ σ' (σ.ah+1) n eb .aY m cl bs (fun _=>.aY) (fun _=>[]) [])
   (aN (fun q tm σ'=>∃ k cl bs,q=nl - k∧k≤nl∧Tr.aj tm 3 = .c pv∧Tr.aj tm 4 = .c dv∧Tr.aj tm 10 = .c (.ptr σ.ah 0)∧Tr.aj tm 11 = .c (.ptr (σ.ah+1) 0)∧Tr.aj tm 12 = .c (.int .i64 (.ofNat n))∧Tr.aj tm 51 = .c lv∧Tr.aj tm 52 = .c (.int .i64 (.ofNat nl))∧Tr.aj tm 53 = .c (.int .i64 (.ofNat k))∧σ'.h σ.ah=some ⟨[.aY,.aY],none⟩∧GI σ σ' (σ.ah+1) n eb .aY m cl bs (fun _=>.aY) (fun _=>[]) []) nl ?_ ?_) ?_
  ·refine ⟨0,fun _=>[],fun _=>0,jb,jb,?_⟩
   simp (maxSteps:=9^9) (disch:=try exact jz) only [go_sem,z3,t2,t3,t4,t10,t11,t12,true_and]
   exact ⟨q0,hG1⟩
  ·rintro q tm σ' ⟨k,cl,bs,rfl,hk,t3,t4,t10,t11,t12,t51,t52,t53,q0,hI⟩
   have hF:=hI.fr
   have hle:=hF.le
   have hnx:=hI.nx
   have hb:=hI.b
   have asR:=hI.g.elo
   have an5:=hI.g.ehi
   have ZT:=hI.g.e
   simp (maxSteps:=9^9) (disch:=try exact jz) only [go_sem,z3,t3,t4,t10,t11,t12,t51,t52,t53,aP]
   refine aI (fun hlt=>?_) (fun hlt=>?_)
   ·obtain ⟨b,o,c,rfl,hld⟩:=hlv.pos jb
    have hld:=hF.ld hW (hld k hlt)
    have l0:=hL k 0 hlt
    have l1:=hL k 1 hlt
    have l2:=hL k 2 hlt
    have l3:=hL k 3 hlt
    have hm0:L k 0%n<n:=Nat.mod_lt _ jb
    have hlC:=hI.g.ldC hm0
    have hc6:=(hI.c _ hm0).1
    generalize hx:L k 0%n=i at *
    have hfl:=DR (cl i) (bs i)
    have hfk:=oC (cl i) (bs i)
    have hge : ∀ a b:Nat,decide (Int.ofNat a≤Int.ofNat b)=decide (a≤b):=fun a b=>by simp
    simp (maxSteps:=9^9) (disch:=try exact jz) only [go_sem,z3,t3,t4,t10,t11,t12,t51,t52,t53,hld,hx,au hb,hlC,hfl,hge]
    refine aI (fun h6=>?_) (fun h6=>?_)
    ·simp (maxSteps:=9^9) (disch:=try exact jz) only [go_sem,z3,t3,t4,t10,t11,t12,t51,t52,t53]
     exact ⟨nl - (k+1),jb,k+1,cl,bs,rfl,jb,rfl,q0,hI.step (by have hFr:=Fr.refl hF.wf;exact fr)⟩
    ·have hct:=ajF (cl i)
     have hcn:=an4 (cl i)
     have hn1:0<n+1:=jb
     have hgood : ∀ hv:Int,(hv = -1∨∃ j:Nat,j<n∧j≠i∧hv=(j:Int))→AV n i ⟨hv,.ofNat (L k 2%3),uo (amt (L k 3))⟩:=fun hv h=>⟨h,⟨L k 2%3,jb,rfl⟩,_,rfl⟩
     have hwC:=fun x=>an3 (m:=m) (cl:=cl) (bs:=bs) (A:=fun _=>.aY) (nx:=σ'.ah+1+1) hm0 x
     simp (maxSteps:=9^9) (disch:=try exact jz) only [go_sem,z3,t3,t4,t10,t11,t12,t51,t52,t53]
     refine TQ (fun hq=>?_) (fun hq=>?_)
     ·have hw:=hwC ⟨-1,.ofNat (L k 2%3),uo (amt (L k 3))⟩
      by_cases hz:(cl i).length=0
      ·have he:jK (cl i) (bs i) = .aY:=by unfold jK;rw [if_pos hz]
       rw [hz] at hw
       simp (maxSteps:=9^9) (disch:=try exact jz) only [go_sem,z3,t3,t4,t10,t11,t12,t51,t52,t53,hx,au hb,hlC,he,aX ZT,ZT,hw,hq]
       refine ⟨nl - (k+1),jb,k+1,aK cl i (cl i ++ [⟨-1,.ofNat (L k 2%3),uo (amt (L k 3))⟩]),aK bs i (σ'.ah+1+1),rfl,jb,rfl,q0,hI.push hm0 jb (hgood _ (.inl rfl)) ?_ ?_ ?_ ?_ ?_ ?_ ?_⟩
       ·simp (disch:=omega) only [ak,gI];exact hb
       ·rw [aA]
       ·rw [ak _ _ _ _ jb,aA,hz];rfl
       ·intro b9 h9 h8 h7 h6;simp (disch:=first|assumption|omega) only [ak,gI]
       ·omega
       ·omega
       ·exact fr
      ·have he:=iO (l:=cl i) jb (bs i)
       obtain ⟨c1,c2,c3,c4⟩:=hI.g.c i hm0 jb
       simp (maxSteps:=9^9) (disch:=try exact jz) only [go_sem,z3,t3,t4,t10,t11,t12,t51,t52,t53,hx,au hb,hlC,he,c1,hct,aX ZT,ZT,hw,hq]
       refine ⟨nl - (k+1),jb,k+1,aK cl i (cl i ++ [⟨-1,.ofNat (L k 2%3),uo (amt (L k 3))⟩]),aK bs i (σ'.ah+1+1),rfl,jb,rfl,q0,hI.push hm0 jb (hgood _ (.inl rfl)) ?_ ?_ ?_ ?_ ?_ ?_ ?_⟩
       ·simp (disch:=omega) only [ak,gI];exact hb
       ·rw [aA]
       ·rw [ak _ _ _ _ jb,aA];rfl
       ·intro b9 h9 h8 h7 h6;have h6:=h6 jb;simp (disch:=first|assumption|omega) only [ak,gI]
       ·omega
       ·omega
       ·exact fr
     ·simp (maxSteps:=9^9) (disch:=try exact jz) only [go_sem,z3,t3,t4,t10,t11,t12,t51,t52,t53,hq,hge]
      refine aI (fun hq2=>?_) (fun hq2=>?_)
      ·have hw:=hwC ⟨-1,.ofNat (L k 2%3),uo (amt (L k 3))⟩
       by_cases hz:(cl i).length=0
       ·have he:jK (cl i) (bs i) = .aY:=by unfold jK;rw [if_pos hz]
        rw [hz] at hw
        simp (maxSteps:=9^9) (disch:=try exact jz) only [go_sem,z3,t3,t4,t10,t11,t12,t51,t52,t53,hx,au hb,hlC,he,aX ZT,ZT,hw]
        refine ⟨nl - (k+1),jb,k+1,aK cl i (cl i ++ [⟨-1,.ofNat (L k 2%3),uo (amt (L k 3))⟩]),aK bs i (σ'.ah+1+1),rfl,jb,rfl,q0,hI.push hm0 jb (hgood _ (.inl rfl)) ?_ ?_ ?_ ?_ ?_ ?_ ?_⟩
        ·simp (disch:=omega) only [ak,gI];exact hb
        ·rw [aA]
        ·rw [ak _ _ _ _ jb,aA,hz];rfl
        ·intro b9 h9 h8 h7 h6;simp (disch:=first|assumption|omega) only [ak,gI]
        ·omega
        ·omega
        ·exact fr
       ·have he:=iO (l:=cl i) jb (bs i)
        obtain ⟨c1,c2,c3,c4⟩:=hI.g.c i hm0 jb
        simp (maxSteps:=9^9) (disch:=try exact jz) only [go_sem,z3,t3,t4,t10,t11,t12,t51,t52,t53,hx,au hb,hlC,he,c1,hct,aX ZT,ZT,hw]
        refine ⟨nl - (k+1),jb,k+1,aK cl i (cl i ++ [⟨-1,.ofNat (L k 2%3),uo (amt (L k 3))⟩]),aK bs i (σ'.ah+1+1),rfl,jb,rfl,q0,hI.push hm0 jb (hgood _ (.inl rfl)) ?_ ?_ ?_ ?_ ?_ ?_ ?_⟩
        ·simp (disch:=omega) only [ak,gI];exact hb
        ·rw [aA]
        ·rw [ak _ _ _ _ jb,aA];rfl
        ·intro b9 h9 h8 h7 h6;have h6:=h6 jb;simp (disch:=first|assumption|omega) only [ak,gI]
        ·omega
        ·omega
        ·exact fr
      ·have hw:=hwC ⟨.ofNat (L k 1%(n+1)),.ofNat (L k 2%3),uo (amt (L k 3))⟩
       by_cases hz:(cl i).length=0
       ·have he:jK (cl i) (bs i) = .aY:=by unfold jK;rw [if_pos hz]
        rw [hz] at hw
        simp (maxSteps:=9^9) (disch:=try exact jz) only [go_sem,z3,t3,t4,t10,t11,t12,t51,t52,t53,hx,au hb,hlC,he,aX ZT,ZT,hw]
        refine ⟨nl - (k+1),jb,k+1,aK cl i (cl i ++ [⟨.ofNat (L k 1%(n+1)),.ofNat (L k 2%3),uo (amt (L k 3))⟩]),aK bs i (σ'.ah+1+1),rfl,jb,rfl,q0,hI.push hm0 jb (hgood _ (.inr ⟨_,jb,hq,rfl⟩)) ?_ ?_ ?_ ?_ ?_ ?_ ?_⟩
        ·simp (disch:=omega) only [ak,gI];exact hb
        ·rw [aA]
        ·rw [ak _ _ _ _ jb,aA,hz];rfl
        ·intro b9 h9 h8 h7 h6;simp (disch:=first|assumption|omega) only [ak,gI]
        ·omega
        ·omega
        ·exact fr
       ·have he:=iO (l:=cl i) jb (bs i)
        obtain ⟨c1,c2,c3,c4⟩:=hI.g.c i hm0 jb
        simp (maxSteps:=9^9) (disch:=try exact jz) only [go_sem,z3,t3,t4,t10,t11,t12,t51,t52,t53,hx,au hb,hlC,he,c1,hct,aX ZT,ZT,hw]
        refine ⟨nl - (k+1),jb,k+1,aK cl i (cl i ++ [⟨.ofNat (L k 1%(n+1)),.ofNat (L k 2%3),uo (amt (L k 3))⟩]),aK bs i (σ'.ah+1+1),rfl,jb,rfl,q0,hI.push hm0 jb (hgood _ (.inr ⟨_,jb,hq,rfl⟩)) ?_ ?_ ?_ ?_ ?_ ?_ ?_⟩
        ·simp (disch:=omega) only [ak,gI];exact hb
        ·rw [aA]
        ·rw [ak _ _ _ _ jb,aA];rfl
        ·intro b9 h9 h8 h7 h6;have h6:=h6 jb;simp (disch:=first|assumption|omega) only [ak,gI]
        ·omega
        ·omega
        ·exact fr
   ·have:k=nl:=jb
    simp (maxSteps:=9^9) (disch:=try exact jz) only [go_sem,z3,true_and]
    exact ⟨cl,bs,t3,t4,t10,t11,t12,q0,hI⟩
  ·rintro _ tm σ' ⟨rfl,cl,bs,t3,t4,t10,t11,t12,q0,hI⟩
   have UE:=hpv.len
   simp (maxSteps:=9^9) (disch:=try exact jz) only [go_sem,z3,t3,UE]
   refine bM.mono (Q:=fun e tm σ'=>e = .exit 4∧∃ A al,Tr.aj tm 4 = .c dv∧Tr.aj tm 10 = .c (.ptr σ.ah 0)∧Tr.aj tm 11 = .c (.ptr (σ.ah+1) 0)∧σ'.h σ.ah=some ⟨[.aY,.aY],none⟩∧GI σ σ' (σ.ah+1) n eb .aY m cl bs A al [])
    (aN (fun q tm σ'=>∃ k A al,q=np - k∧k≤np∧Tr.aj tm 4 = .c dv∧Tr.aj tm 10 = .c (.ptr σ.ah 0)∧Tr.aj tm 11 = .c (.ptr (σ.ah+1) 0)∧Tr.aj tm 12 = .c (.int .i64 (.ofNat n))∧Tr.aj tm 107 = .c pv∧Tr.aj tm 108 = .c (.int .i64 (.ofNat np))∧Tr.aj tm 109 = .c (.int .i64 (.ofNat k))∧σ'.h σ.ah=some ⟨[.aY,.aY],none⟩∧GI σ σ' (σ.ah+1) n eb .aY m cl bs A al []) np ?_ ?_) ?_
   ·refine ⟨0,fun _=>.aY,fun _=>[],jb,jb,?_⟩
    simp (maxSteps:=9^9) (disch:=try exact jz) only [go_sem,z3,t3,t4,t10,t11,t12,true_and]
    exact ⟨q0,hI⟩
   ·rintro q tm σ' ⟨k,A,al,rfl,hk,t4,t10,t11,t12,t107,Q5,t109,q0,hI⟩
    have hF:=hI.fr
    have hle:=hF.le
    have hnx:=hI.nx
    have hb:=hI.b
    have asR:=hI.g.elo
    have an5:=hI.g.ehi
    have ZT:=hI.g.e
    simp (maxSteps:=9^9) (disch:=try exact jz) only [go_sem,z3,t4,t10,t11,t12,t107,Q5,t109,aP]
    refine aI (fun hlt=>?_) (fun hlt=>?_)
    ·obtain ⟨b,o,c,rfl,hld⟩:=hpv.pos jb
     have hld:=hF.ld hW (hld k hlt)
     have l0:=hP k 0 hlt
     have l1:=hP k 1 hlt
     have l2:=hP k 2 hlt
     have hm0:P k 0%n<n:=Nat.mod_lt _ jb
     have hlA:=hI.g.ldA hm0
     have hlE:=hI.g.ldE hm0
     rw [Nat.zero_add] at hlE
     unfold pI at hlE
     have hc6:=(hI.c _ hm0).1
     have hgA:=hI.a _ hm0
     have hAa:=hI.g.a _ hm0
     generalize hx:P k 0%n=i at *
     have hAl:=hAa.choose_spec.1.len
     have hAk:=hAa.kn
     have hfl:=DR (cl i) (bs i)
     have hfk:=oC (cl i) (bs i)
     simp (maxSteps:=9^9) (disch:=try exact jz) only [go_sem,z3,t4,t10,t11,t12,t107,Q5,t109,hld,hx,au hb,hlA,hAl,aP]
     refine aI (fun h2=>?_) (fun h2=>?_)
     ·simp (maxSteps:=9^9) (disch:=try exact jz) only [go_sem,z3,t4,t10,t11,t12,t107,Q5,t109,hld,hx,au hb,hlE,hfk,hAk,aP]
      refine aO.st (Fr σ') (by have hFr:=Fr.refl hF.wf;exact fr) fun hF3=>?_
      refine (ajm hF3.wf (al i) (hAa.keep (fun b hq=>hF3.old b hq.2.1) fun _ h=>h) (hgA.len jb) (cl i).length hfl jb rfl rfl rfl hfk _ _ _ l0 l1 l2).mono ?_
      rintro _ σ4 ⟨⟨rv,a,rfl,hr,ha,hg⟩,hf4⟩
      have uG:=hF3.trans hf4
      have asT:=hF.trans uG
      have hb4:=uG.get hF.wf hb
      have asU:=uG.get hF.wf ZT
      have Aw:=uG.le
      have asV:=uG.ld hF.wf hlE
      have asW:=hf4.get hF3.wf (aA _ _ _)
      have hw:=ajE (m:=m) (cl:=cl) (bs:=bs) (A:=A) (rv:=rv) hm0
      simp (maxSteps:=9^9) (disch:=try exact jz) only [go_sem,z3,t4,t10,t11,t12,t107,Q5,t109,au hb4,hb4,asV,asW,hfk,hAk,aX asU,hw]
      refine ⟨np - (k+1),jb,k+1,aK A i rv,aK al i (al i ++ [a]),rfl,jb,rfl,uG.get hF.wf q0,hI.agr uG rfl hm0 jb (hr.keep (fun _ _=>rfl) fun b9 h9=>h9.imp id fun h9=>⟨by have h8:σ'.ah+1≤b9:=h9.1;omega,h9.2⟩) ha hg ?_ ?_ ?_ jp ?_⟩
      ·rw [ak _ _ _ _ jb];exact hb4
      ·rw [aA]
      ·intro b9 h9 h8 h7
       rw [ak _ _ _ _ h7]
      ·exact fr
     ·simp (maxSteps:=9^9) (disch:=try exact jz) only [go_sem,z3,t4,t10,t11,t12,t107,Q5,t109]
      exact ⟨np - (k+1),jb,k+1,A,al,rfl,jb,rfl,q0,hI.step (by have hFr:=Fr.refl hF.wf;exact fr)⟩
    ·simp (maxSteps:=9^9) (disch:=try exact jz) only [go_sem,z3,true_and]
     exact ⟨A,al,t4,t10,t11,q0,hI⟩
   ·rintro _ tm σ' ⟨rfl,A,al,t4,t10,t11,q0,hI⟩
    have hlenD:=hdv.len
    simp (maxSteps:=9^9) (disch:=try exact jz) only [go_sem,z3,t4,hlenD]
    refine bM.mono (Q:=fun e tm σ'=>e = .exit 6∧∃ X9 dl,Tr.aj tm 10 = .c (.ptr σ.ah 0)∧Tr.aj tm 11 = .c (.ptr (σ.ah+1) 0)∧σ'.h σ.ah=some ⟨[.aY,.aY],none⟩∧GI σ σ' (σ.ah+1) n eb X9 m cl bs A al dl)
     (aN (fun q tm σ'=>∃ k X9 dl,q=nd - k∧k≤nd∧Tr.aj tm 10 = .c (.ptr σ.ah 0)∧Tr.aj tm 11 = .c (.ptr (σ.ah+1) 0)∧Tr.aj tm 139 = .c dv∧Tr.aj tm 140 = .c (.int .i64 (.ofNat nd))∧Tr.aj tm 141 = .c (.int .i64 (.ofNat k))∧σ'.h σ.ah=some ⟨[.aY,.aY],none⟩∧GI σ σ' (σ.ah+1) n eb X9 m cl bs A al dl) nd ?_ ?_) ?_
    ·refine ⟨0,.aY,[],jb,jb,?_⟩
     simp (maxSteps:=9^9) (disch:=try exact jz) only [go_sem,z3,t4,t10,t11,true_and]
     exact ⟨q0,hI⟩
    ·rintro q tm σ' ⟨k,X9,dl,rfl,hk,t10,t11,t139,agq,t141,q0,hI⟩
     have hF:=hI.fr
     have hle:=hF.le
     have hnx:=hI.nx
     have hb:=hI.b
     have hDD:=hI.g.d
     have hDl:=hDD.choose_spec.1.len
     have hDk:=hDD.kn
     have hGG:=hI.g.grp .opn
     have hd3:=hI.d.1
     simp (maxSteps:=9^9) (disch:=try exact jz) only [go_sem,z3,t10,t11,t139,agq,t141,aP]
     refine aI (fun hlt=>?_) (fun hlt=>?_)
     ·obtain ⟨b,o,c,rfl,hld⟩:=hdv.pos jb
      have hld:=hF.ld hW (hld k hlt)
      have l0:=hD k 0 hlt
      have l1:=hD k 1 hlt
      have l2:=hD k 2 hlt
      simp (maxSteps:=9^9) (disch:=try exact jz) only [go_sem,z3,t10,t11,t139,agq,t141,hld,au hb,hDk,hDl,aP]
      refine aI (fun h2=>?_) (fun h2=>?_)
      ·simp (maxSteps:=9^9) (disch:=try exact jz) only [go_sem,z3,t10,t11,t139,agq,t141,hld,au hb,hDk,hDl,aP]
       refine aO.st (Fr σ') (by have hFr:=Fr.refl hF.wf;exact fr) fun hF3=>?_
       have hEl:(jc n m cl al).length=n:=ni ..
       refine (aqG hF3.wf (jc n m cl al) dl (p:=Qt (σ.ah+1+1) σ'.ah eb n cl bs) (ev:=.sl eb 0 n .opn) (hGG.e.keep (q:=fun _=>True) (fun b hq=>hF3.old b hq.2) fun _ _=>trivial) (hDD.keep (fun b hq=>hF3.old b hq.2.1) fun _ h=>h) ⟨jb,fun j hj=>by have:=(hI.d.2 j hj).1;omega⟩ jb (fun j hj=>?_) _ _ _ l0 l1 l2).mono ?_
       ·have hj' : j<n:=jb
        rw [sN m cl al hj']
        have:=(hI.c j hj').1
        show (cl j).length≤1000
        omega
       ·rintro _ σ4 ⟨⟨rv,d,rfl,hr,hd1,hd2,hd3⟩,hf4⟩
        have uG:=hF3.trans hf4
        have asT:=hF.trans uG
        have hb4:=uG.get hF.wf hb
        have Aw:=uG.le
        simp (maxSteps:=9^9) (disch:=try exact jz) only [go_sem,z3,t10,t11,t139,agq,t141,aX hb4]
        refine ⟨nd - (k+1),jb,k+1,rv,dl ++ [d],rfl,jb,rfl,uG.get hF.wf q0,hI.dbt uG jb (hr.keep (fun _ _=>rfl) fun b9 h9=>h9.imp id fun h9=>⟨by have h8:σ'.ah+1≤b9:=h9.1;omega,h9.2⟩) ⟨hd1,_,hd2⟩ hd3 ?_ ?_ jp ?_⟩
        ·rw [aA]
        ·intro b9 h9 h8
         rw [ak _ _ _ _ jb]
        ·exact fr
      ·simp (maxSteps:=9^9) (disch:=try exact jz) only [go_sem,z3,t10,t11,t139,agq,t141]
       exact ⟨nd - (k+1),jb,k+1,X9,dl,rfl,jb,rfl,q0,hI.step (by have hFr:=Fr.refl hF.wf;exact fr)⟩
     ·simp (maxSteps:=9^9) (disch:=try exact jz) only [go_sem,z3,true_and]
      exact ⟨X9,dl,t10,t11,q0,hI⟩
    ·rintro _ tm σ' ⟨rfl,X9,dl,t10,t11,q0,hI⟩
     have hF:=hI.fr
     have hb:=hI.b
     have hnx:=hI.nx
     have hDk:=hI.g.d.kn
     simp (maxSteps:=9^9) (disch:=try exact jz) only [go_sem,z3,t10,t11,au hb,hDk,aX q0]
     refine ⟨eb,X9,m,cl,bs,A,al,dl,rfl,⟨?_,?_,hI.m,hI.c,hI.a,hI.d,hI.nx,hI.lo,?_,hI.dg⟩⟩
     ·rw [ak _ _ _ _ jb];exact hb
     ·exact hI.g.mono (fun b9 h9 h8=>ak _ _ _ _ jb) jp
     ·exact fr
end Go.Proofs.Xe
