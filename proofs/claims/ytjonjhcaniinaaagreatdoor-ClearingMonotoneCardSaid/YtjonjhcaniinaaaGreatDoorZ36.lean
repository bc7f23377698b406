/- clearing.settle: what is anC, leg by leg. -/
import Derived.Test.YtjonjhcaniinaaaGreatDoorZ35
set_option linter.unusedSimpArgs false
set_option linter.unusedVariables false
set_option maxHeartbeats 8000000
namespace Go.Proofs.Xe
open Go.RowKit Go.Proofs.Ins
structure Fam (p:Nat→Prop) (h:Tr Bk) (nn bb:Nat→Nat) (GG:Nat→Nat→List B) (ee tt:Nat→Nat) (QQ:Nat→(Nat→Prop)→Tr Bk→Nat→Prop) (lo hi:Nat):Prop where
 g : ∀ k,uF (nn k) h (bb k)=gF (nn k) (GG k) (ee k) (tt k)
 L : ∀ k,LG (GG k) (ee k)
 l1 : ∀ k,lo≤bb k
 l2 : ∀ k,nn k=0∨bb k<hi
 ne : ∀ k k',k≠k'→nn k=0∨nn k' = 0∨bb k≠bb k'
 np : ∀ k,nn k=0∨¬ p (bb k)
 q : ∀ k j,j<nn k→QQ k p h j
 pp : ∀ x,p x→lo≤x∧x<hi
section
variable {p p' : Nat→Prop} {h h' h1:Tr Bk} {nn bb:Nat→Nat} {GG GG' : Nat→Nat→List B} {ee tt:Nat→Nat} {QQ QQ' : Nat→(Nat→Prop)→Tr Bk→Nat→Prop} {lo hi:Nat}
theorem Fam.nil (hn : ∀ k,nn k=0) (hL : ∀ k,LG (GG k) (ee k)):Fam (fun _=>False) h nn (fun _=>lo) GG ee tt QQ lo hi :=
 ⟨fun k=>by rw [hn k];rfl,hL,fun _=>Nat.le_refl _,fun k=>.inl (hn k),fun k _ _=>.inl (hn k),fun k=>.inl (hn k),fun k j hj=>by rw [hn k] at hj;omega,fun _ h=>h.elim⟩
theorem Fam.keep (ho:Fam p h nn bb GG ee tt QQ lo hi) (hQ : ∀ k j,QK (QQ k) j) (hh : ∀ b,lo≤b→b<hi→h' b=h b) {hi' : Nat} (h2:hi≤hi'):Fam p h' nn bb GG ee tt QQ lo hi':=by
 obtain ⟨g,L,l1,l2,ne,np,q,pp⟩:=ho
 refine ⟨fun k=>?_,L,l1,fun k=>by have:=l2 k;omega,ne,np,fun k j hj=>hQ k j _ _ _ _ (q k j hj) (fun b hb=>hh b (pp b hb).1 (pp b hb).2) fun _ hb=>hb,fun x hx=>by have:=pp x hx;omega⟩
 rw [← g k]
 refine pV ?_
 rcases l2 k with e|e
 ·exact .inl e
 ·exact .inr (hh _ (l1 k) e)
theorem Fam.push (ho:Fam p h nn bb GG ee tt QQ lo hi) (k:Nat) {hi1 nx n' : Nat} (hp : ∀ x,p x→p' x) (hp2 : ∀ x,p' x→p x∨hi≤x∧x<hi1) (hQ : ∀ k j,QK (QQ' k) j) (hQQ : ∀ k j,j<nn k→∀ p h,QQ k p h j→QQ' k p h j) (hG : ∀ k j,j<nn k→GG' k j=GG k j) (hL : ∀ k,LG (GG' k) (ee k))
  (hx:QQ' k p' h1 (nn k)) (hh : ∀ x,lo≤x→x<hi→h1 x=h x) (h2:hi≤hi1) (h3:hi1≤nx) (h4:nx<n') (h5:lo≤hi) {x:List B} (hb:h' nx=some ⟨bC (nn k) (GG k) ++ x,some (ee k,tt k)⟩) (hgn:x=GG' k (nn k)) (hk : ∀ c,lo≤c→c<hi1→nn k=0∨c≠bb k→h' c=h1 c) :
  Fam p' h' (aI nn k (nn k+1)) (aI bb k nx) GG' ee tt QQ' lo n':=by
 obtain ⟨g,L,l1,l2,ne,np,q,pp⟩:=ho
 have hp' : ∀ b,p' b→lo≤b∧b<hi1∧(nn k=0∨b≠bb k):=fun b hb=>by
  rcases hp2 b hb with hb|hb
  ·have h6:=pp b hb
   refine ⟨h6.1,by omega,?_⟩
   rcases np k with h7|h7
   ·exact .inl h7
   ·exact .inr fun e=>h7 (e ▸ hb)
  ·refine ⟨by omega,hb.2,?_⟩
   have:=l2 k
   omega
 have hnp : ∀ k',nn k' = 0∨¬ p' (bb k'):=fun k'=>by
  rcases np k' with h7|h7
  ·exact .inl h7
  ·rcases l2 k' with h8|h8
   ·exact .inl h8
   ·refine .inr fun hb=>?_
    rcases hp2 _ hb with hb|hb
    ·exact h7 hb
    ·omega
 refine ⟨fun k'=>?_,hL,fun k'=>?_,fun k'=>?_,fun a b hab=>?_,fun k'=>?_,fun k' j hj=>?_,fun x hx=>by have:=hp' x hx;omega⟩
 ·by_cases e:k' = k
  ·subst e
   rw [aG,aG]
   show h' nx=some _
   rw [hb,jg]
   congr 2
   refine dB fun i hi=>?_
   unfold iT
   split
   ·next e=>rw [e,hgn]
   ·rw [hG _ i (by omega)]
  ·rw [aH _ _ _ _ e,aH _ _ _ _ e]
   have h6:uF (nn k') h' (bb k')=uF (nn k') h (bb k'):=pV (by
    rcases l2 k' with h8|h8
    ·exact .inl h8
    ·have h9:=ne k' k e
     by_cases e0:nn k' = 0
     ·exact .inl e0
     ·exact .inr (by rw [hk _ (l1 k') (by omega) (by omega),hh _ (l1 k') h8]))
   rw [h6,g k']
   generalize hm:nn k' = m
   cases m with
   | zero=>rfl
   | succ m=>show some _=some _;rw [dB fun i hi=>(hG k' i (by omega)).symm]
 ·by_cases e:k' = k
  ·subst e;rw [aG];omega
  ·rw [aH _ _ _ _ e];exact l1 k'
 ·by_cases e:k' = k
  ·subst e;rw [aG bb];exact .inr h4
  ·rw [aH _ _ _ _ e,aH _ _ _ _ e]
   have:=l2 k';omega
 ·by_cases ea:a=k
  ·subst ea
   rw [aH nn _ b _ (Ne.symm hab),aH bb _ b _ (Ne.symm hab),aG,aG]
   have:=l2 b;omega
  ·by_cases eb:b=k
   ·subst eb
    rw [aH nn _ a _ ea,aH bb _ a _ ea,aG,aG]
    have:=l2 a;omega
   ·rw [aH nn _ a _ ea,aH bb _ a _ ea,aH nn _ b _ eb,aH bb _ b _ eb]
    exact ne a b hab
 ·by_cases e:k' = k
  ·subst e
   rw [aG bb]
   exact .inr fun h=>by have:=hp' _ h;omega
  ·rw [aH nn _ _ _ e,aH bb _ _ _ e];exact hnp k'
 ·by_cases e:k' = k∧j=nn k
  ·obtain ⟨rfl,rfl⟩:=e
   exact hQ _ _ _ _ _ _ hx (fun b hb=>hk b (hp' b hb).1 (hp' b hb).2.1 (hp' b hb).2.2) fun _ h=>h
  ·have hj' : j<nn k':=by
    by_cases e2:k' = k
    ·subst e2;rw [aG] at hj;have : ¬ j=nn k':=fun e3=>e ⟨rfl,e3⟩;omega
    ·rwa [aH _ _ _ _ e2] at hj
   exact hQ _ _ _ _ _ _ (hQQ k' j hj' _ _ (q k' j hj')) (fun b hb=>by have:=hp' b (hp b hb);rw [hk b this.1 this.2.1 this.2.2,hh b (pp b hb).1 (pp b hb).2]) hp
theorem Fam.hlp (ho:Fam p h nn bb GG ee tt QQ lo hi) (k:Nat) (he:0<ee k) (hk : ∀ j,j<nn k→(GG k j).all B.kn=true) {q:Nat→Prop} (hq : ∀ b,lo≤b→b<hi→q b):dw q h (ee k) (aN (nn k) (bb k)) (nn k) (GG k):=by
 have g:=ho.g k
 have hl:=ho.l2 k
 have hL:=ho.L k
 have hlo:=ho.l1 k
 generalize nn k=n at *
 cases n with
 | zero=>exact .inl ⟨rfl,rfl⟩
 | succ n=>exact iM _ g (WE _ _ (by omega)) (hq _ hlo (by omega)) hL he hk
theorem Fam.keep' (ho:Fam p h nn bb GG ee tt QQ lo hi) (hQ : ∀ k j,QK (QQ k) j) (hp : ∀ b,p b→h' b=h b) (hh : ∀ k,nn k=0∨h' (bb k)=h (bb k)):Fam p h' nn bb GG ee tt QQ lo hi:=by
 obtain ⟨g,L,l1,l2,ne,np,q,pp⟩:=ho
 exact ⟨fun k=>(pV (hh k)).trans (g k),L,l1,l2,ne,np,fun k j hj=>hQ k j _ _ _ _ (q k j hj) hp fun _ hb=>hb,pp⟩
structure qW (p:Nat→Prop) (h:Tr Bk) (nn bb:Nat→Nat) (GG:Nat→Nat→List B) (ee tt:Nat→Nat) (QQ:Nat→(Nat→Prop)→Tr Bk→Nat→Prop) (m:Nat) (kk:Nat→Nat) (C:Nat→Nat→List B) (bs:Nat→Nat) (lo hi:Nat):Prop where
 f:Fam p h nn bb GG ee tt QQ lo hi
 r:mJ h m kk C bs lo hi
 w : ∀ j,j<m→¬ p (bs j)
 n : ∀ j k,j<m→nn k=0∨bb k≠bs j
variable {m:Nat} {kk:Nat→Nat} {C:Nat→Nat→List B} {bs:Nat→Nat}
theorem qW.keep (ho:qW p h nn bb GG ee tt QQ m kk C bs lo hi) (hQ : ∀ k j,QK (QQ k) j) (hh : ∀ b,lo≤b→b<hi→h' b=h b) {hi' : Nat} (h2:hi≤hi'):qW p h' nn bb GG ee tt QQ m kk C bs lo hi' :=
 ⟨ho.f.keep hQ hh h2,ho.r.mono hh (Nat.le_refl _) h2,ho.w,ho.n⟩
theorem qW.push (ho:qW p h nn bb GG ee tt QQ m kk C bs lo hi) (k:Nat) {hi1 nx n' : Nat} (hp : ∀ x,p x→p' x) (hp2 : ∀ x,p' x→p x∨hi≤x∧x<hi1) (hQ : ∀ k j,QK (QQ' k) j) (hQQ : ∀ k j,j<nn k→∀ p h,QQ k p h j→QQ' k p h j) (hG : ∀ k j,j<nn k→GG' k j=GG k j) (hL : ∀ k,LG (GG' k) (ee k))
  (hx:QQ' k p' h1 (nn k)) (hh : ∀ x,lo≤x→x<hi→h1 x=h x) (h2:hi≤hi1) (h3:hi1≤nx) (h4:nx<n') (h5:lo≤hi) {x:List B} (hb:h' nx=some ⟨bC (nn k) (GG k) ++ x,some (ee k,tt k)⟩) (hgn:x=GG' k (nn k)) (hk : ∀ c,lo≤c→c<hi1→nn k=0∨c≠bb k→h' c=h1 c) :
  qW p' h' (aI nn k (nn k+1)) (aI bb k nx) GG' ee tt QQ' m kk C bs lo n':=by
 refine ⟨ho.f.push k hp hp2 hQ hQQ hG hL hx hh h2 h3 h4 h5 hb hgn hk,ho.r.mono' (fun j hj=>?_) (Nat.le_refl _) (by omega),fun j hj hb=>?_,fun j i hj=>?_⟩
 ·obtain ⟨-,k2,k3⟩:=ho.r.r j hj
  have:=ho.n j k hj
  rw [hk _ k2 (by omega) (by omega),hh _ k2 k3]
 ·obtain ⟨-,k2,k3⟩:=ho.r.r j hj
  rcases hp2 _ hb with hb|hb
  ·exact ho.w j hj hb
  ·omega
 ·obtain ⟨-,k2,k3⟩:=ho.r.r j hj
  by_cases e:i=k
  ·subst e;rw [aG bb];omega
  ·rw [aH nn _ _ _ e,aH bb _ _ _ e];exact ho.n j i hj
theorem qW.pushRow (ho:qW p h nn bb GG ee tt QQ m kk C bs lo hi) (k:Nat) {hi1 nx n' nb:Nat} (hQ : ∀ k j,QK (QQ' k) j) (hQQ : ∀ k j,j<nn k→∀ p h,QQ k p h j→QQ' k p h j) (hG : ∀ k j,j<nn k→GG' k j=GG k j) (hL : ∀ k,LG (GG' k) (ee k))
  (hx:QQ' k p h1 (nn k)) (hh : ∀ x,lo≤x→x<hi→h1 x=h x) (h2:hi≤hi1) (h3:hi1≤nx) (h4:nx<n') (h5:lo≤hi) {x:List B} (hb:h' nx=some ⟨bC (nn k) (GG k) ++ x,some (ee k,tt k)⟩) (hgn:x=GG' k (nn k)) (hk : ∀ c,lo≤c→c<hi1→nn k=0∨c≠bb k→h' c=h1 c)
  (h6:hi≤nb) (h7:nb<hi1) (hr:h' nb=some ⟨bC (kk m) (C m),none⟩) :
  qW p h' (aI nn k (nn k+1)) (aI bb k nx) GG' ee tt QQ' (m+1) kk C (aI bs m nb) lo n':=by
 have hP:=ho.push k (p':=p) (fun _ h=>h) (fun _ h=>.inl h) hQ hQQ hG hL hx hh h2 h3 h4 h5 hb hgn hk
 refine ⟨hP.f,ho.r.push hr rfl h6 (by omega) (by omega) fun b h8 h9 ⟨i,hi,e⟩=>?_,fun j hj=>?_,fun j i hj=>?_⟩
 ·have:=ho.n i k hi
  subst e
  rw [hk _ h8 (by omega) (by omega),hh _ h8 h9]
 ·by_cases e:j=m
  ·subst e;rw [aG];exact fun h=>by have:=ho.f.pp _ h;omega
  ·rw [aH _ _ _ _ e];exact ho.w j (by omega)
 ·by_cases e:j=m
  ·subst e
   rw [aG bs]
   by_cases e2:i=k
   ·subst e2;rw [aG bb];omega
   ·rw [aH nn _ _ _ e2,aH bb _ _ _ e2]
    have:=ho.f.l2 i;omega
  ·rw [aH bs _ _ _ e];exact hP.n j i (by omega)
theorem qW.write (ho:qW p h nn bb GG ee tt QQ m kk C bs lo hi) (hQ : ∀ k j,QK (QQ k) j) {j c:Nat} {x l:List B} (hj:j<m) (hl:l=bC (kk j) (iT (C j) c x)):qW p (hset h (bs j) ⟨l,none⟩) nn bb GG ee tt QQ m kk (Ej C j c x) bs lo hi:=by
 refine ⟨ho.f.keep' hQ (fun b hb=>ak _ _ _ _ fun e=>ho.w j hj (e ▸ hb)) (fun k=>?_),ho.r.set hj hl,ho.w,ho.n⟩
 rcases ho.n j k hj with e|e
 ·exact .inl e
 ·exact .inr (ak _ _ _ _ e)
theorem qW.grow (ho:qW p h nn bb GG ee tt QQ m kk C bs lo hi) (hQ : ∀ k j,QK (QQ k) j) (hh : ∀ b,lo≤b→b<hi→h' b=h b) {hi' : Nat} (h2:hi≤hi') (hp : ∀ x,p x→p' x) (hp2 : ∀ x,p' x→p x∨hi≤x∧x<hi') (h3:lo≤hi):qW p' h' nn bb GG ee tt QQ m kk C bs lo hi':=by
 obtain ⟨⟨g,L,l1,l2,ne,np,q,pp⟩,r,w,n⟩:=ho
 refine ⟨⟨fun k=>?_,L,l1,fun k=>by have:=l2 k;omega,ne,fun k=>?_,fun k j hj=>hQ k j _ _ _ _ (q k j hj) (fun b hb=>hh b (pp b hb).1 (pp b hb).2) hp,fun x hx=>?_⟩,r.mono hh (Nat.le_refl _) h2,fun j hj hb=>?_,n⟩
 ·rw [← g k]
  refine pV ?_
  rcases l2 k with e|e
  ·exact .inl e
  ·exact .inr (hh _ (l1 k) e)
 ·rcases np k with e|e
  ·exact .inl e
  ·rcases l2 k with e2|e2
   ·exact .inl e2
   ·refine .inr fun hb=>?_
    rcases hp2 _ hb with hb|hb
    ·exact e hb
    ·omega
 ·rcases hp2 x hx with hb|hb
  ·have:=pp x hb;omega
  ·omega
 ·obtain ⟨-,k2,k3⟩:=r.r j hj
  rcases hp2 _ hb with hb|hb
  ·exact w j hj hb
  ·omega
theorem qW.same (ho:qW p h nn bb GG ee tt QQ m kk C bs lo hi) (k:Nat) {hi1:Nat} (hh : ∀ x,lo≤x→x<hi→h1 x=h x) (h2:hi≤hi1) (hk : ∀ c,lo≤c→c<hi1→nn k=0∨c≠bb k→h' c=h1 c) : ∀ x,p x→h' x=h x:=fun x hx=>by
 have h3:=ho.f.pp x hx
 rw [hk x h3.1 (by omega) ?_,hh x h3.1 h3.2]
 rcases ho.f.np k with e|e
 ·exact .inl e
 ·exact .inr fun e2=>e (e2 ▸ hx)
end
def anw (p:Nat→Prop) (h:Tr Bk) (lv:B) (el:List oU):Prop:=∃ R P:Nat→B,dw p h 6 lv el.length (fun i=>jO (ix el i).c.length (R i) (P i) (oz (ix el i) (ix el i).c.length))∧∀ i,i<el.length→qQ p h (R i) (P i) (mM (ix el i))
def anx (p:Nat→Prop) (h:Tr Bk) (bv:B) (el:List oU) (L:List kH):Prop:=∃ T:Nat→B,dw p h 1 bv el.length (fun i=>[T i])∧∀ i,i<el.length→dw p h 1 (T i) (ix el i).c.length fun c=>[.bool (L.contains (i,c))]
structure Oq (p:Nat→Prop) (h:Tr Bk) (sb:Nat) (g:iy):Prop where
 s : ∃ ev dv lv bv,h sb=some ⟨[ev,dv,lv,bv],none⟩∧oL p h ev dv g∧anw p h lv g.e∧anx p h bv g.e (mV g).dP
 b:p sb
theorem Oq.keep {p q:Nat→Prop} {h h' : Tr Bk} {sb:Nat} {g:iy} (hs:Oq p h sb g) (hk : ∀ b,p b→h' b=h b) (hp : ∀ b,p b→q b):Oq q h' sb g:=by
 obtain ⟨⟨ev,dv,lv,bv,h1,h2,⟨R,P,h3,h4⟩,T,h5,h6⟩,hb⟩:=hs
 exact ⟨⟨ev,dv,lv,bv,by rw [hk _ hb];exact h1,h2.keep hk hp,⟨R,P,h3.keep hk hp,fun i hi=>(h4 i hi).keep hk hp⟩,T,h5.keep hk hp,fun i hi=>(h6 i hi).keep hk hp⟩,hp _ hb⟩
theorem Oq.fr {σ σ' : St} (hf:Fr σ σ') {sb:Nat} {g:iy} (hs:Oq (Lt σ.ah) σ.h sb g):Oq (Lt σ'.ah) σ'.h sb g:=hs.keep (fun b hb=>hf.old b hb) fun b hb=>Nat.lt_of_lt_of_le hb hf.le
/-! ### Its two lists -/
def vT (i:Nat):Nat→Nat:=fun k=>if k=2∨k=3 then i else 0
def kE (el:List oU) (i:Nat):Nat:=(ix el i).c.length
def bG (el:List oU) (R P:Nat→B) (bs:Nat→Nat):Nat→Nat→List B
 | 2=>fun i=>jO (ix el i).c.length (R i) (P i) (oz (ix el i) (ix el i).c.length)
 | 3=>fun i=>[xR (kE el) bs i]
 | _=>fun _=>[]
def bE:Nat→Nat
 | 2=>6
 | 3=>1
 | _=>0
def bT:Nat→Nat
 | 2=>114
 | 3=>32
 | _=>0
def bQ (el:List oU) (R P:Nat→B):Nat→(Nat→Prop)→Tr Bk→Nat→Prop
 | 2=>fun p h i=>qQ p h (R i) (P i) (mM (ix el i))
 | _=>NoQ
theorem adP (el:List oU) (R P:Nat→B) (bs:Nat→Nat) (k:Nat):LG (bG el R P bs k) (bE k):=by
 intro j
 unfold bG bE
 split <;> rfl
theorem ZR (el:List oU) (R P:Nat→B) (k j:Nat):QK (bQ el R P k) j:=by
 unfold bQ
 split
 ·exact fun _ _ _ _ hp hk hq=>hp.keep hk hq
 ·exact QI j
def Jc (L:List kH) (i c:Nat):List B:=[.bool (L.contains (i,c))]
abbrev Vl (el:List oU) (p:Nat→Prop) (h:Tr Bk) (nn bb:Nat→Nat) (R P:Nat→B) (bs:Nat→Nat) (m:Nat) (L:List kH) (lo hi:Nat):Prop:=qW p h nn bb (bG el R P bs) bE bT (bQ el R P) m (kE el) (Jc L) bs lo hi
theorem ZT (i:Nat):aI (aI (vT i) 2 (vT i 2+1)) 3 (aI (vT i) 2 (vT i 2+1) 3+1)=vT (i+1):=by
 funext k
 unfold aI vT
 by_cases h2:k=2
 ·subst h2;rfl
 ·by_cases h3:k=3
  ·subst h3;rfl
  ·simp [h2,h3]
theorem Rl {kk bs:Nat→Nat} {m nb j:Nat} (h:j≠m):xR kk (aI bs m nb) j=xR kk bs j:=by unfold xR;rw [aH _ _ _ _ h]
theorem Xz (i k:Nat):vT i k≤i:=by unfold vT;split <;> omega
theorem akV {el:List oU} {R P:Nat→B} {i j:Nat} (h:j<i) (rv pv:B) (k:Nat) (p:Nat→Prop) (H:Tr Bk) (hq:bQ el R P k p H j):bQ el (aI R i rv) (aI P i pv) k p H j:=by
 unfold bQ at hq ⊢
 split
 ·show qQ p H (aI R i rv j) (aI P i pv j) _
  rw [aH _ _ _ _ (by omega),aH _ _ _ _ (by omega)];exact hq
 ·trivial
theorem akW {el:List oU} {R P:Nat→B} {bs:Nat→Nat} {i j:Nat} (h:j<i) (rv pv:B) (k:Nat):bG el (aI R i rv) (aI P i pv) bs k j=bG el R P bs k j:=by
 unfold bG
 split
 ·show jO _ (aI R i rv j) (aI P i pv j) _=_
  rw [aH _ _ _ _ (by omega),aH _ _ _ _ (by omega)]
 ·rfl
 ·rfl
theorem akX {el:List oU} {R P:Nat→B} {bs:Nat→Nat} {m nb j:Nat} (k:Nat) (h:k=3→j<m):bG el R P (aI bs m nb) k j=bG el R P bs k j:=by
 unfold bG
 split
 ·rfl
 ·show [xR _ _ j]=_
  have:=h rfl
  rw [Rl (by omega)]
 ·rfl
theorem oD {n:Nat} (h:0<n) (b:Nat):aN n b = .sl b 0 n .opn:=by
 cases n with
 | zero=>omega
 | succ n=>rfl
def wB (dl:List nR) (j:Nat):List kH:=(dl.take j).flatMap fun d=>d.l.map yZ
theorem Vm {dl:List nR} {j:Nat} (h:j<dl.length):wB dl (j+1)=wB dl j ++ (ix dl j).l.map yZ:=by
 unfold wB
 rw [bD h,List.flatMap_append]
 simp
theorem ZU (g:iy):wB g.d g.d.length=(mV g).dP:=by
 unfold wB GL.dP mV
 rw [List.take_length,List.flatMap_map]
theorem ZV (L:List kH) (e c:Nat):Ej (Jc L) e c [.bool true]=Jc (L ++ [(e,c)]):=by
 funext i' c'
 unfold Ej Jc
 rw [List.contains_append]
 by_cases h:i' = e∧c' = c
 ·rw [if_pos h,h.1,h.2];simp
 ·rw [if_neg h]
  have:[(e,c)].contains (i',c')=false:=by simp;omega
  rw [this,Bool.or_false]
structure adQ (A:Nat) (g:iy):Prop where
 n:g.e.length≤1000
 d:g.d.length≤1000
 e : ∀ i,i<g.e.length→adH A (ix g.e i)
 l : ∀ d,d<g.d.length→(ix g.d d).l.length≤1000
 lg : ∀ d,d<g.d.length→∀ k,k<(ix g.d d).l.length→∃ e c:Nat,ix (ix g.d d).l k=⟨.ofNat e,.ofNat c⟩∧e<g.e.length∧c<(ix g.e e).c.length
def Rn (ev dv:B) (n:Nat) (bb:Nat→Nat):List B:=[ev,dv,aN n (bb 2),aN n (bb 3)]
set_option maxRecDepth 10000 in
theorem agX {σ:St} (hW:WF σ) {p:Nat→Prop} {ev dv:B} (g:iy) (hg:oL p σ.h ev dv g) {A:Nat} (hA:Eb A) (hO:adQ A g) :
  aT EN 28 [.agg [ev,dv]] σ fun r σ'=>(∃ sb,r = .c (.ptr sb 0)∧Oq (Lt σ'.ah) σ'.h sb g)∧Fr σ σ':=by
 refine dh (nG.o _ _) nG.h ?_
 unfold nG
 dsimp only
 have hek:=hg.e.kn
 have hdk:=hg.d.kn
 have hlenE:=hg.e.len
 have hlenD:=hg.d.len
 have hne:=hO.n
 have hnd:=hO.d
 have hFr:=Fr.refl hW
 simp (maxSteps:=9^9) (disch:=first|assumption|decide|omega) only [go_sem,z3,hek,hdk,hlenE]
 refine bY.mono (Q:=fun ex tm σ'=>ex = .exit 0∧∃ p bb R P bs,Tr.aj tm 1 = .c (.ptr σ.ah 0)∧Tr.aj tm 3 = .c (.ptr (σ.ah+1) 0)∧σ'.h σ.ah=some ⟨[ev,dv],none⟩∧σ'.h (σ.ah+1)=some ⟨Rn ev dv g.e.length bb,none⟩
   ∧ Vl g.e p σ'.h (vT g.e.length) bb R P bs g.e.length [] (σ.ah+1+1) σ'.ah∧Fr σ σ'∧σ.ah+1+1≤σ'.ah)
  (aP (fun q tm σ'=>∃ i p bb R P bs,q=g.e.length - i∧i≤g.e.length∧Tr.aj tm 1 = .c (.ptr σ.ah 0)∧Tr.aj tm 3 = .c (.ptr (σ.ah+1) 0)∧Tr.aj tm 14 = .c ev∧Tr.aj tm 15 = .c (.int .i64 (.ofNat g.e.length))∧Tr.aj tm 16 = .c (.int .i64 (.ofNat i))∧σ'.h σ.ah=some ⟨[ev,dv],none⟩∧σ'.h (σ.ah+1)=some ⟨Rn ev dv i bb,none⟩
   ∧ Vl g.e p σ'.h (vT i) bb R P bs i [] (σ.ah+1+1) σ'.ah∧Fr σ σ'∧σ.ah+1+1≤σ'.ah) g.e.length ?_ ?_) ?_
 ·refine ⟨0,fun _=>False,fun _=>σ.ah+1+1,fun _=>.aW,fun _=>.aW,fun _=>0,by omega,by omega,?_⟩
  simp (maxSteps:=9^9) (disch:=first|assumption|decide|omega) only [go_sem,z3,true_and]
  refine ⟨rfl,⟨Fam.nil (fun k=>?_) (adP _ _ _ _),mJ.nil _ _ _ _ _ _,fun j hj=>by omega,fun j k hj=>by omega⟩,fr,by omega⟩
  unfold vT;split <;> rfl
 ·rintro q tm σ' ⟨i,p,bb,R,P,bs,rfl,hi,t1,t3,t14,t15,t16,q0,q1,hS,hf,hnx⟩
  have hle:=hf.le
  simp (maxSteps:=9^9) (disch:=first|assumption|decide|omega) only [go_sem,z3,t1,t3,t14,t15,t16,aV]
  refine aK (fun hlt=>?_) (fun hlt=>?_)
  ·obtain ⟨b5,o5,c5,rfl,C1,A1,dM,-,hC,hA1⟩:=hg.e.at hlt
   have dM:=hf.ld hW dM
   have hCk:=dw.kn hC
   have hAk:=hA1.kn
   have hlo2:=hS.f.l1 2
   have hlo3:=hS.f.l1 3
   have hhi2:i=0∨bb 2<σ'.ah:=hS.f.l2 2
   have hhi3:i=0∨bb 3<σ'.ah:=hS.f.l2 3
   have anz:i=0∨i=0∨bb 2≠bb 3:=hS.f.ne 2 3 (by decide)
   unfold Rn at q1
   refine Ri (run_seq (Dj (Rh (fun tm σ5=>∃ p bb R P,Tr.aj tm 1 = .c (.ptr σ.ah 0)∧Tr.aj tm 3 = .c (.ptr (σ.ah+1) 0)∧Tr.aj tm 5 = .c (.ptr σ'.ah 0)∧Tr.aj tm 14 = .c (.sl b5 o5 g.e.length c5)∧Tr.aj tm 15 = .c (.int .i64 (.ofNat g.e.length))∧Tr.aj tm 16 = .c (.int .i64 (.ofNat i))
     ∧ σ5.h σ.ah=some ⟨[.sl b5 o5 g.e.length c5,dv],none⟩∧σ5.h (σ.ah+1)=some ⟨[.sl b5 o5 g.e.length c5,dv,aN (i+1) (bb 2),aN i (bb 3)],none⟩∧σ5.h σ'.ah=some ⟨[.bool (ix g.e i).m.n,.str (ix g.e i).m.s,.str (ix g.e i).m.d,C1,A1],none⟩∧Vl g.e p σ5.h (aI (vT i) 2 (vT i 2+1)) bb R P bs i [] (σ.ah+1+1) σ5.ah∧Fr σ σ5∧σ'.ah<σ5.ah) ?_ ?_)))
   ·have wI:=Fr.refl hf.wf
    simp (maxSteps:=9^9) (disch:=first|assumption|decide|omega) only [go_sem,z3,t1,t3,t14,t15,t16,dM,hCk,hAk,aA q1]
    refine aT.st (Fr σ') (fr) fun oq=>?_
    have hf5:=hf.trans oq
    refine (ant oq.wf (dw.fr hW hf5 hC) (hA1.fr hW hf5) rfl rfl rfl hA (hO.e i hlt)).mono ?_
    rintro _ σ6 ⟨⟨rv,pv,rfl,hL⟩,yS⟩
    have Ei:=oq.trans yS
    have akP:=hf.trans Ei
    have DF:σ'.ah+1≤σ6.ah:=yS.le
    have q06:=Ei.get hf.wf q0
    have q16:=Ei.get hf.wf q1
    have q56:σ6.h σ'.ah=some ⟨[.bool (ix g.e i).m.n,.str (ix g.e i).m.s,.str (ix g.e i).m.d,C1,A1],none⟩:=yS.get oq.wf (au _ _ _)
    have hrk:=hL.rk.kn
    have hpk:=hL.pkn
    have hS6:=hS.keep (ZR _ _ _) (fun b _ hb=>Ei.old b hb) (Nat.le_refl _)
    have hg6:uF i σ6.h (bb 2)=gF i (bG g.e R P bs 2) 6 114:=hS6.f.g 2
    have hLG:LG (bG g.e R P bs 2) 6:=adP _ _ _ _ 2
    unfold jO
    simp (maxSteps:=9^9) (disch:=first|assumption|decide|omega) only [go_sem,z3,t1,t3,t14,t15,t16,hrk,hpk,aA q16,q16,hg6]
    refine ⟨fun b=>p b∨σ'.ah≤b∧b<σ6.ah,aI bb 2 (σ6.ah+1),aI R i rv,aI P i pv,?_⟩
    and_intros <;> try (first|rfl|omega|exact q06|exact q56|exact fr)
    refine hS.push 2 (hi1:=σ6.ah) (h1:=σ6.h) (fun x h=>.inl h) (fun x h=>h) (ZR _ _ _) (fun k j hj p h hq=>akV (Nat.lt_of_lt_of_le hj (Xz i k)) rv pv k p h hq) (fun k j hj=>akW (Nat.lt_of_lt_of_le hj (Xz i k)) rv pv k) (adP _ _ _ _) ?_ (fun b _ hb=>Ei.old b hb) (by omega) (by omega) (by omega) hnx
     (x:=jO (ix g.e i).c.length rv pv (oz (ix g.e i) (ix g.e i).c.length)) ?_ ?_ fun c h1 h2 h3=>?_
    ·show qQ _ _ (aI R i rv i) (aI P i pv i) _
     rw [aG,aG]
     exact hL.keep (fun _ _=>rfl) fun b hb=>.inr ⟨Nat.le_trans (Nat.le_succ _) hb.1,hb.2⟩
    ·rw [ak _ _ _ _ (by omega),au];rfl
    ·show _=jO _ (aI R i rv i) (aI P i pv i) _
     rw [aG,aG];rfl
    ·rw [ak _ _ _ _ (by omega),ak _ _ _ _ (by omega),gJ i _ _ _ h3,ak _ _ _ _ (by omega)]
   ·rintro tm5 σ5 ⟨p5,jq,R5,P5,t1,t3,t5,t14,t15,t16,q0,q1,q5,hS5,hf5,hn5⟩
    have IJ:=hf5.le
    have hlo2:=hS5.f.l1 2
    have hlo3:=hS5.f.l1 3
    have hhi2:i+1=0∨jq 2<σ5.ah:=hS5.f.l2 2
    have hhi3:i=0∨jq 3<σ5.ah:=hS5.f.l2 3
    have anz:i+1=0∨i=0∨jq 2≠jq 3:=hS5.f.ne 2 3 (by decide)
    have hg5:uF i σ5.h (jq 3)=gF i (bG g.e R5 P5 bs 3) 1 32:=hS5.f.g 3
    have hLG:LG (bG g.e R5 P5 bs 3) 1:=adP _ _ _ _ 3
    have hnc:=(hO.e i hlt).nc
    have hlC:=dw.len hC
    have ZW:=Fr.refl hf5.wf
    simp (maxSteps:=9^9) (disch:=first|assumption|decide|omega) only [go_sem,z3,t1,t3,t5,t14,t15,t16,hlC,hCk,hAk,aA q1,aA q5,q1,hg5]
    refine ⟨g.e.length - (i+1),by omega,i+1,p5,aI jq 3 (σ5.ah+1+1),R5,P5,aI bs i σ5.ah,rfl,by omega,rfl,q0,rfl,?_,fr,by omega⟩
    rw [← ZT]
    refine hS5.pushRow 3 (hi1:=σ5.ah+1) (nb:=σ5.ah) (h1:=hset σ5.h σ5.ah ⟨bC (kE g.e i) (Jc [] i),none⟩) (ZR _ _ _) (fun k j hj p h hq=>hq) (fun k j hj=>akX (m:=i) k fun e=>by subst e;exact hj) (adP _ _ _ _) trivial (fun b _ hb=>ak _ _ _ _ (by omega)) (by omega) (by omega) (by omega) (by omega) (x:=[xR (kE g.e) (aI bs i σ5.ah) i]) ?_ rfl (fun c h1 h2 h3=>?_) (by omega) (by omega) ?_
    ·rw [ak _ _ _ _ (by omega),au]
     unfold xR
     rw [aG];rfl
    ·rw [ak _ _ _ _ (by omega),ak _ _ _ _ (by omega),gJ i _ _ _ h3,ak _ _ _ _ (by omega)];rfl
    ·rw [ak _ _ _ _ (by omega),ak _ _ _ _ (by omega),gJ _ _ _ _ (by omega),ak _ _ _ _ (by omega),au];rfl
  ·have:i=g.e.length:=by omega
   subst this
   simp (maxSteps:=9^9) (disch:=first|assumption|decide|omega) only [go_sem,z3,true_and]
   exact ⟨p,bb,R,P,bs,t1,t3,q0,q1,hS,hf,hnx⟩
 rintro _ tm σ2 ⟨rfl,p2,bb,R,P,bs,t1,t3,q0,q1,hS,hf,hnx⟩
 have hle:=hf.le
 have apL : ∀ k,bb k<σ2.ah∨vT g.e.length k=0:=fun k=>(hS.f.l2 k).symm
 simp (maxSteps:=9^9) (disch:=first|assumption|decide|omega) only [go_sem,z3,t1,t3,aA q0,hdk,hlenD]
 refine bY.mono (Q:=fun ex tm σ'=>ex = .exit 2∧Tr.aj tm 3 = .c (.ptr (σ.ah+1) 0)∧σ'.h (σ.ah+1)=some ⟨Rn ev dv g.e.length bb,none⟩∧Vl g.e p2 σ'.h (vT g.e.length) bb R P bs g.e.length (wB g.d g.d.length) (σ.ah+1+1) σ'.ah∧Fr σ σ'∧σ.ah+1+1≤σ'.ah)
  (aP (fun q tm σ'=>∃ j,q=g.d.length - j∧j≤g.d.length∧Tr.aj tm 3 = .c (.ptr (σ.ah+1) 0)∧Tr.aj tm 46 = .c dv∧Tr.aj tm 47 = .c (.int .i64 (.ofNat g.d.length))∧Tr.aj tm 48 = .c (.int .i64 (.ofNat j))
   ∧ σ'.h (σ.ah+1)=some ⟨Rn ev dv g.e.length bb,none⟩∧Vl g.e p2 σ'.h (vT g.e.length) bb R P bs g.e.length (wB g.d j) (σ.ah+1+1) σ'.ah∧Fr σ σ'∧σ.ah+1+1≤σ'.ah) g.d.length ?_ ?_) ?_
 ·refine ⟨0,by omega,by omega,?_⟩
  simp (maxSteps:=9^9) (disch:=first|assumption|decide|omega) only [go_sem,z3,t3,true_and]
  exact ⟨q1,hS,hf,hnx⟩
 ·rintro q tm σ' ⟨j,rfl,hj,t3,t46,t47,t48,q1,hS,hf,hnx⟩
  have hle:=hf.le
  simp (maxSteps:=9^9) (disch:=first|assumption|decide|omega) only [go_sem,z3,t3,t46,t47,t48,aV]
  refine aK (fun hlt=>?_) (fun hlt=>?_)
  ·obtain ⟨b5,o5,c5,rfl,T1,dM,hT⟩:=hg.d.el hlt
   have dM:=hf.ld hW dM
   have ZN:=dw.kn hT
   have hlT:=dw.len hT
   have hll:=hO.l j hlt
   have wI:=Fr.refl hf.wf
   simp (maxSteps:=9^9) (disch:=first|assumption|decide|omega) only [go_sem,z3,t3,t46,t47,t48,dM,ZN,hlT]
   refine bY.st (Fr σ') (fr) fun hF3=>?_
   have hf3:=hf.trans hF3
   have hS3:=hS.keep (ZR _ _ _) (fun b _ hb=>hF3.old b hb) hF3.le
   have q13:=hF3.get hf.wf q1
   have hle3:=hF3.le
   refine bY.mono (Q:=fun ex tm σ4=>ex = .exit 4∧Tr.aj tm 3 = .c (.ptr (σ.ah+1) 0)∧Tr.aj tm 46 = .c (.sl b5 o5 g.d.length c5)∧Tr.aj tm 47 = .c (.int .i64 (.ofNat g.d.length))∧Tr.aj tm 48 = .c (.int .i64 (.ofNat j))∧σ4.h (σ.ah+1)=some ⟨Rn ev (.sl b5 o5 g.d.length c5) g.e.length bb,none⟩∧Vl g.e p2 σ4.h (vT g.e.length) bb R P bs g.e.length (wB g.d (j+1)) (σ.ah+1+1) σ4.ah∧Fr σ σ4∧σ.ah+1+1≤σ4.ah)
    (aP (fun q tm σ4=>∃ t,q=(ix g.d j).l.length - t∧t≤(ix g.d j).l.length∧Tr.aj tm 3 = .c (.ptr (σ.ah+1) 0)∧Tr.aj tm 46 = .c (.sl b5 o5 g.d.length c5)∧Tr.aj tm 47 = .c (.int .i64 (.ofNat g.d.length))∧Tr.aj tm 48 = .c (.int .i64 (.ofNat j))∧Tr.aj tm 53 = .c T1∧Tr.aj tm 54 = .c (.int .i64 (.ofNat (ix g.d j).l.length))∧Tr.aj tm 55 = .c (.int .i64 (.ofNat t))
     ∧ σ4.h (σ.ah+1)=some ⟨Rn ev (.sl b5 o5 g.d.length c5) g.e.length bb,none⟩∧Vl g.e p2 σ4.h (vT g.e.length) bb R P bs g.e.length (wB g.d j ++ ((ix g.d j).l.take t).map yZ) (σ.ah+1+1) σ4.ah∧Fr σ σ4∧σ.ah+1+1≤σ4.ah) (ix g.d j).l.length ?_ ?_) ?_
   ·refine ⟨0,by omega,by omega,?_⟩
    simp (maxSteps:=9^9) (disch:=first|assumption|decide|omega) only [go_sem,z3,t3,t46,t47,t48,true_and,List.take_zero,List.map_nil,List.append_nil]
    exact ⟨q1,hS3,hf3,by omega⟩
   ·rintro q tm σ4 ⟨t,rfl,ht,t3,t46,t47,t48,t53,t54,t55,q14,hS4,hf4,hn4⟩
    have I4:=hf4.le
    simp (maxSteps:=9^9) (disch:=first|assumption|decide|omega) only [go_sem,z3,t3,t46,t47,t48,t53,t54,t55,aV]
    refine aK (fun hlt4=>?_) (fun hlt4=>?_)
    ·obtain ⟨b6,o6,c6,rfl,-,lI⟩:=dw.pos hT (by omega)
     have lI:=hf4.ld hW (lI t hlt4)
     obtain ⟨e,c,hec,he,hc⟩:=hO.lg j hlt t hlt4
     unfold JC at lI
     rw [hec] at lI
     have hrow:ld σ4.h (bb 3) (0+e*1) 1 false=some (.c (xR (kE g.e) bs e)):=by
      obtain ⟨b7,o7,c7,e7,-,uO⟩:=dw.pos (hS4.f.hlp 3 (q:=fun _=>True) (by decide) (fun _ _=>rfl) fun _ _ _=>trivial) (show 0<vT g.e.length 3 by show 0<g.e.length;omega)
      have e8:aN g.e.length (bb 3) = .sl b7 o7 g.e.length c7:=e7
      rw [oD (by omega)] at e8
      cases e8
      exact (vO (uO e he)).1
     unfold xR kE at hrow
     rw [Nat.zero_add] at hrow
     obtain ⟨hr1,hr2,hr3⟩:=hS4.r.r e he
     have hr1:σ4.h (bs e)=some ⟨ones (ix g.e e).c.length fun c=>.bool ((wB g.d j ++ ((ix g.d j).l.take t).map yZ).contains (e,c)),none⟩:=hr1
     have hb3:=hS4.f.l1 3
     have anA : bb 3<σ4.ah:=by rcases hS4.f.l2 3 with h|h;exact absurd (show g.e.length=0 from h) (by omega);exact h
     have adF:=Fr.refl hf4.wf
     have hfp:=oD (show 0<g.e.length by omega) (bb 3)
     have akY:=q14
     unfold Rn at akY
     rw [hfp] at akY
     simp (maxSteps:=9^9) (disch:=first|assumption|decide|omega) only [go_sem,z3,t3,t46,t47,t48,t53,t54,t55,lI,aA akY,hrow,bP hr1,hr1]
     refine ⟨(ix g.d j).l.length - (t+1),by omega,t+1,rfl,by omega,rfl,q14,?_,fr,by omega⟩
     have e9:wB g.d j ++ ((ix g.d j).l.take (t+1)).map yZ=(wB g.d j ++ ((ix g.d j).l.take t).map yZ) ++ [(e,c)]:=by
      rw [bD hlt4,List.map_append,List.append_assoc,hec];rfl
     rw [e9]
     show qW _ _ _ _ _ _ _ _ _ _ (Jc _) _ _ _
     rw [← ZV]
     refine (hS4.keep (h':=hset (hset σ4.h σ4.ah ⟨[i0,i0],none⟩) σ4.ah ⟨[.int .i64 (.ofNat e),.int .i64 (.ofNat c)],none⟩) (ZR _ _ _) (fun b _ hb=>by rw [ak _ _ _ _ (by omega),ak _ _ _ _ (by omega)]) (Nat.le_succ _)).write (ZR _ _ _) he (dB fun c' _=>?_)
     unfold iT aI Jc
     split <;> rfl
    ·have:t=(ix g.d j).l.length:=by omega
     subst this
     simp (maxSteps:=9^9) (disch:=first|assumption|decide|omega) only [go_sem,z3,true_and]
     rw [List.take_length,← Vm hlt] at hS4
     exact ⟨t3,t46,t47,t48,q14,hS4,hf4,hn4⟩
   ·rintro _ tm σ4 ⟨rfl,t3,t46,t47,t48,q14,hS4,hf4,hn4⟩
    simp (maxSteps:=9^9) (disch:=first|assumption|decide|omega) only [go_sem,z3,t3,t46,t47,t48]
    exact ⟨g.d.length - (j+1),by omega,j+1,rfl,by omega,rfl,q14,hS4,hf4,hn4⟩
  ·have:j=g.d.length:=by omega
   subst this
   simp (maxSteps:=9^9) (disch:=first|assumption|decide|omega) only [go_sem,z3,true_and]
   exact ⟨t3,q1,hS,hf,hnx⟩
 rintro _ tm σ3 ⟨rfl,t3,q1,hS,hf,hnx⟩
 have hle:=hf.le
 simp (maxSteps:=9^9) (disch:=first|assumption|decide|omega) only [go_sem,z3,t3]
 refine ⟨⟨_,rfl,⟨_,_,_,_,q1,(hg.fr hW hf).keep (fun _ _=>rfl) fun b hb=>Nat.lt_of_lt_of_le hb hf.le,⟨R,P,?_,fun i hi=>?_⟩,?_⟩,by show _<_;omega⟩,hf⟩
 ·refine (hS.f.hlp 2 (by decide) (fun j hj=>?_) fun b _ h2=>h2)
  have:=hS.f.q 2 j hj
  show List.all (jO _ _ _ _) B.kn=true
  unfold jO
  have h1:(R j).kn=true:=qQ.rk this |>.kn
  have h2:(P j).kn=true:=qQ.pkn this
  simp only [List.all_cons,List.all_nil,abX,vI,zC,h1,h2,Bool.and_self]
 ·exact qQ.keep (hS.f.q 2 i hi) (fun _ _=>rfl) fun b hb=>(hS.f.pp b hb).2
 ·refine ⟨fun i=>xR (kE g.e) bs i,hS.f.hlp 3 (by decide) (fun _ _=>rfl) fun b _ h2=>h2,fun i hi=>?_⟩
  rw [← ZU]
  exact hS.r.hlp (fun b _ h2=>h2) (by decide) (fun _ _=>rfl) (fun _ _ _ _=>rfl) hi
structure anB (D:Nat) (g:iy) (x:Nat→Rat):Prop where
 hD:Eb D
 n:g.e.length≤1000
 d:g.d.length≤1000
 e : ∀ i,i<g.e.length→EOk D (kE g.e i) (mM (ix g.e i))∧MOk D (mM (ix g.e i)) (x i)∧Sz (oz (ix g.e i) (kE g.e i))∧Sz (x i - oz (ix g.e i) (kE g.e i))
 k : ∀ i,i<g.e.length→kE g.e i≤1000
 w : ∀ d,d<g.d.length→(ix g.d d).w.fits 1000000∧0≤(ix g.d d).w.q∧Zk D 1 (ix g.d d).w.q
 l : ∀ d,d<g.d.length→(ix g.d d).l.length≤1000∧∀ k,k<(ix g.d d).l.length→∃ e c:Nat,ix (ix g.d d).l k=⟨.ofNat e,.ofNat c⟩∧e<g.e.length∧c<kE g.e e
 q : ∀ i,i<g.e.length→∀ c,c<kE g.e i→0≤gq (mV g) x (i,c)∧Zk D 1 (gq (mV g) x (i,c))
 r : ∀ i,i<g.e.length→∀ c,c<kE g.e i→Sz (qV (mV g) x (i,c))
 nd:(mV g).dP.Nodup
def grF (g:iy) (x:Nat→Rat) (i c:Nat):Rat:=Eh (mM (ix g.e i)) (x i) c
def dlF (g:iy) (x:Nat→Rat) (i c:Nat):Rat:=wG (mM (ix g.e i)) (x i) c
def suF (g:iy) (x:Nat→Rat) (i:Nat):Rat:=yL (x i - oz (ix g.e i) (kE g.e i)) 0
def rsF (g:iy) (x:Nat→Rat) (i:Nat):Rat:=rsv (mM (ix g.e i)) (x i)
def fuF (g:iy) (x:Nat→Rat) (i:Nat):Bool:=decide (0≤ku (x i) (oz (ix g.e i) (kE g.e i)))
def sG (g:iy) (x:Nat→Rat) (T:Nat→Nat→B) (bs:Nat→Nat):Nat→Nat→List B
 | 1=>fun i=>[T 1 i]
 | 2=>fun i=>[T 2 i]
 | 3=>fun i=>[xR (kE g.e) bs i]
 | 4=>fun i=>[T 4 i]
 | 5=>fun i=>kC (suF g x i)
 | 6=>fun i=>kC (rsF g x i)
 | 7=>fun i=>[.bool (fuF g x i)]
 | _=>fun _=>[]
def sE:Nat→Nat
 | 1=>1
 | 2=>1
 | 3=>1
 | 4=>1
 | 5=>3
 | 6=>3
 | 7=>1
 | _=>0
def sT:Nat→Nat
 | 1=>30
 | 2=>30
 | 3=>30
 | 4=>30
 | 5=>42
 | 6=>42
 | 7=>4
 | _=>0
def sQ (g:iy) (x:Nat→Rat) (T:Nat→Nat→B):Nat→(Nat→Prop)→Tr Bk→Nat→Prop
 | 1=>adK (T 1) (kE g.e) (grF g x)
 | 2=>adK (T 2) (kE g.e) (dlF g x)
 | 4=>adK (T 4) (kE g.e) fun i c=>DI (mV g) x (i,c)
 | _=>NoQ
theorem Jd (g:iy) (x:Nat→Rat) (T:Nat→Nat→B) (bs:Nat→Nat) (k:Nat):LG (sG g x T bs k) (sE k):=by
 intro j
 unfold sG sE
 split <;> rfl
theorem JQ (g:iy) (x:Nat→Rat) (T:Nat→Nat→B) (k j:Nat):QK (sQ g x T k) j:=by
 unfold sQ
 split
 ·exact Vk _ _ _ j
 ·exact Vk _ _ _ j
 ·exact Vk _ _ _ j
 ·exact QI j
def tN (T:Nat→Nat→B) (k i:Nat) (v:B):Nat→Nat→B:=fun k' j=>if k' = k∧j=i then v else T k' j
theorem XA {T:Nat→Nat→B} {k i k' j:Nat} (h:k'≠k∨j≠i) (v:B):tN T k i v k' j=T k' j:=if_neg (by omega)
theorem qB (T:Nat→Nat→B) (k i:Nat) (v:B):tN T k i v k i=v:=if_pos ⟨rfl,rfl⟩
theorem Vo {g:iy} {x:Nat→Rat} {T:Nat→Nat→B} {bs:Nat→Nat} {k i:Nat} {v:B} {k' j:Nat} (h:k' = k→j<i):sG g x (tN T k i v) bs k' j=sG g x T bs k' j:=by
 have hu : ∀ a,k' = a→tN T k i v a j=T a j:=fun a e=>XA (by by_cases e2:a=k;exact .inr (by have:=h (e.trans e2);omega);exact .inl e2) v
 unfold sG
 split
 ·show [tN T k i v 1 j]=_;rw [hu 1 rfl]
 ·show [tN T k i v 2 j]=_;rw [hu 2 rfl]
 ·rfl
 ·show [tN T k i v 4 j]=_;rw [hu 4 rfl]
 ·rfl
 ·rfl
 ·rfl
 ·rfl
theorem Vp {g:iy} {x:Nat→Rat} {T:Nat→Nat→B} {k i:Nat} {v:B} {k' j:Nat} (h:k' = k→j<i) {p:Nat→Prop} {H:Tr Bk} (hq:sQ g x T k' p H j):sQ g x (tN T k i v) k' p H j:=by
 have hu : ∀ a,k' = a→tN T k i v a j=T a j:=fun a e=>XA (by by_cases e2:a=k;exact .inr (by have:=h (e.trans e2);omega);exact .inl e2) v
 unfold sQ at hq ⊢
 split
 ·show dw _ _ _ (tN T k i v 1 j) _ _;rw [hu 1 rfl];exact hq
 ·show dw _ _ _ (tN T k i v 2 j) _ _;rw [hu 2 rfl];exact hq
 ·show dw _ _ _ (tN T k i v 4 j) _ _;rw [hu 4 rfl];exact hq
 ·trivial
theorem akZ {g:iy} {x:Nat→Rat} {T:Nat→Nat→B} {bs:Nat→Nat} {m nb j:Nat} (k:Nat) (h:k=3→j<m):sG g x T (aI bs m nb) k j=sG g x T bs k j:=by
 unfold sG
 split
 ·rfl
 ·rfl
 ·show [xR _ _ j]=_
  have:=h rfl
  rw [Rl (by omega)]
 all_goals rfl
def x9 (cm:B) (nn bb:Nat→Nat):List B:=[cm,aN (nn 1) (bb 1),aN (nn 2) (bb 2),aN (nn 3) (bb 3),aN (nn 4) (bb 4),aN (nn 5) (bb 5),aN (nn 6) (bb 6),aN (nn 7) (bb 7)]
def rC (R:Nat→Nat→Rat) (i c:Nat):List B:=kC (R i c)
abbrev vU (g:iy) (x:Nat→Rat) (p:Nat→Prop) (h:Tr Bk) (nn bb:Nat→Nat) (T:Nat→Nat→B) (m:Nat) (R:Nat→Nat→Rat) (bs:Nat→Nat) (lo hi:Nat):Prop:=qW p h nn bb (sG g x T bs) sE sT (sQ g x T) m (kE g.e) (rC R) bs lo hi
def mP (i m:Nat):Nat→Nat
 | 1=>i
 | 2=>i
 | 3=>i
 | 4=>m
 | 5=>i
 | 6=>i
 | 7=>i
 | _=>0
def Vq (tm:Tr V) (rb sb mb n ob i lb xb:Nat) (lv dv:B):Prop:=Tr.aj tm 0 = .c (.ptr sb 0)∧Tr.aj tm 1 = .c (.sl mb 0 n (.ex n))∧Tr.aj tm 4 = .c (.ptr rb 0)∧Tr.aj tm 5 = .c (.ptr ob 0)∧Tr.aj tm 6 = .c (.int .i64 (.ofNat i))∧Tr.aj tm 7 = .c (.ptr lb 0)∧Tr.aj tm 8 = .c dv∧Tr.aj tm 9 = .c (.ptr xb 0)∧Tr.aj tm 25 = .c lv∧Tr.aj tm 26 = .c (.int .i64 (.ofNat n))∧Tr.aj tm 27 = .c (.int .i64 (.ofNat i))
structure Vr (σ:St) (g:iy) (x:Nat→Rat) (cm:B) (ob i:Nat) (LB:List B) (lb xb:Nat) (dv:B) (nn:Nat→Nat) (m:Nat) (p:Nat→Prop) (bb:Nat→Nat) (T:Nat→Nat→B) (bs:Nat→Nat) (σ5:St):Prop where
 o:σ5.h ob=some ⟨x9 cm nn bb,none⟩
 l:σ5.h lb=some ⟨LB,none⟩
 rx:σ5.h xb=some ⟨kC (rsF g x i),none⟩
 pl:p lb
 px:p xb
 d:oC p σ5.h dv (kE g.e i) (dlF g x i)
 S:vU g x p σ5.h nn bb T m (fun _ _=>0) bs (ob+1) σ5.ah
 f:Fr σ σ5
 n:ob+1≤σ5.ah
section
variable {σ σ5:St} {g:iy} {x:Nat→Rat} {cm:B} {ob i:Nat} {LB:List B} {lb xb:Nat} {dv:B} {nn:Nat→Nat} {m:Nat} {p p' : Nat→Prop} {bb:Nat→Nat} {T T' : Nat→Nat→B} {bs:Nat→Nat}
theorem Vr.push (H:Vr σ g x cm ob i LB lb xb dv nn m p bb T bs σ5) (k:Nat) {hi1 nx n' : Nat} {h1 h' : Tr Bk} (hp : ∀ b,p b→p' b) (hp2 : ∀ b,p' b→p b∨σ5.ah≤b∧b<hi1) (hQQ : ∀ k' j,j<nn k'→∀ p h,sQ g x T k' p h j→sQ g x T' k' p h j) (hG : ∀ k' j,j<nn k'→sG g x T' bs k' j=sG g x T bs k' j) (hx:sQ g x T' k p' h1 (nn k)) (hh : ∀ b,b<σ5.ah→h1 b=σ5.h b)
  (h2:σ5.ah≤hi1) (h3:hi1≤nx) (h4:nx<n') {y:List B} (hb:h' nx=some ⟨bC (nn k) (sG g x T bs k) ++ y,some (sE k,sT k)⟩) (hgn:y=sG g x T' bs k (nn k)) (hk : ∀ c,c≠ob→c<hi1→nn k=0∨c≠bb k→h' c=h1 c) (ho:h' ob=some ⟨x9 cm (aI nn k (nn k+1)) (aI bb k nx),none⟩) (hf:Fr σ ⟨h',n'⟩) :
  Vr σ g x cm ob i LB lb xb dv (aI nn k (nn k+1)) m p' (aI bb k nx) T' bs ⟨h',n'⟩:=by
 have hn:=H.n
 have hS:=H.S.push k hp hp2 (JQ g x T') hQQ hG (Jd g x T' bs) hx (fun b _ hb=>hh b hb) h2 h3 h4 hn hb hgn fun c hc h5 h6=>hk c (by omega) h5 h6
 have hs:=H.S.same k (fun b _ hb=>hh b hb) h2 fun c hc h5 h6=>hk c (by omega) h5 h6
 exact ⟨ho,(hs _ H.pl).trans H.l,(hs _ H.px).trans H.rx,hp _ H.pl,hp _ H.px,dw.keep H.d hs hp,hS,hf,by show ob+1≤n';omega⟩
theorem Vr.pushRow (H:Vr σ g x cm ob i LB lb xb dv nn m p bb T bs σ5) (hm:nn 3≤m) {hi1 nx n' nb:Nat} {h1 h' : Tr Bk} (hh : ∀ b,b<σ5.ah→h1 b=σ5.h b) (h2:σ5.ah≤hi1) (h3:hi1≤nx) (h4:nx<n') {y:List B} (hb:h' nx=some ⟨bC (nn 3) (sG g x T bs 3) ++ y,some (1,30)⟩) (hgn:y=[xR (kE g.e) (aI bs m nb) (nn 3)]) (hk : ∀ c,c≠ob→c<hi1→nn 3=0∨c≠bb 3→h' c=h1 c) (ho:h' ob=some ⟨x9 cm (aI nn 3 (nn 3+1)) (aI bb 3 nx),none⟩) (hf:Fr σ ⟨h',n'⟩)
  (h6:σ5.ah≤nb) (h7:nb<hi1) (hr:h' nb=some ⟨bC (kE g.e m) fun _=>kC 0,none⟩) :
  Vr σ g x cm ob i LB lb xb dv (aI nn 3 (nn 3+1)) (m+1) p (aI bb 3 nx) T (aI bs m nb) ⟨h',n'⟩:=by
 have hn:=H.n
 have hS:=H.S.pushRow 3 (JQ g x T) (fun _ _ _ _ _ h=>h) (fun k j hj=>akZ (m:=m) (nb:=nb) k fun e=>by subst e;omega) (Jd g x T _) trivial (fun b _ hb=>hh b hb) h2 h3 h4 hn hb hgn (fun c hc h5 h6=>hk c (by omega) h5 h6) h6 h7 hr
 have hs:=H.S.same 3 (fun b _ hb=>hh b hb) h2 fun c hc h5 h6=>hk c (by omega) h5 h6
 exact ⟨ho,(hs _ H.pl).trans H.l,(hs _ H.px).trans H.rx,H.pl,H.px,dw.keep H.d hs fun _ h=>h,hS,hf,by show ob+1≤n';omega⟩
end
def dW (g:iy) (j:Nat):Rat:=(ix g.d j).w.q
def dL (g:iy) (j:Nat):List kH:=(ix g.d j).l.map yZ
def Ot (g:iy) (x:Nat→Rat) (j:Nat) (l:kH):Rat:=aO ((mV g).ds.take j) fun d=>oQ d.1 (gq (mV g) x) 0 d.2 l
def zL (g:iy) (x:Nat→Rat) (j k:Nat) (i c:Nat):Rat:=Ot g x j (i,c)+oQ (dW g j) (gq (mV g) x) 0 ((dL g j).take k) (i,c)
theorem ahV {g:iy} {j:Nat} (h:j<g.d.length):ix (mV g).ds j=(dW g j,dL g j):=QS (fun d:nR=>(d.w.q,d.l.map yZ)) h
theorem Vs (g:iy):(mV g).ds.length=g.d.length:=List.length_map _
theorem Lr {g:iy} (x:Nat→Rat) {j:Nat} (h:j<g.d.length) (l:kH):Ot g x (j+1) l=Ot g x j l+oQ (dW g j) (gq (mV g) x) 0 (dL g j) l:=by
 unfold Ot
 rw [bD (by rw [Vs];exact h),uH,ahV h]
theorem Ro (g:iy) (x:Nat→Rat) (l:kH):Ot g x g.d.length l=qV (mV g) x l:=by
 unfold Ot qV
 rw [← Vs,List.take_length]
theorem DK (g:iy) (x:Nat→Rat) (j:Nat):zL g x j 0=fun i c=>Ot g x j (i,c):=by
 funext i c
 unfold zL
 rw [List.take_zero]
 exact Rat.add_zero _
theorem adR {g:iy} (x:Nat→Rat) {j:Nat} (h:j<g.d.length):zL g x j (ix g.d j).l.length=zL g x (j+1) 0:=by
 rw [DK]
 funext i c
 rw [Lr x h]
 unfold zL
 have:(ix g.d j).l.length=(dL g j).length:=(List.length_map _).symm
 rw [this,List.take_length]
theorem Rq {f:kH→Rat} {t:List kH} : ∀ {k:Nat},k≤t.length→aC k (fun i=>f (ix t i))=aO (t.take k) f
 | 0,_=>rfl
 | k+1,h=>by
  rw [bD (by omega),uH,← Rq (by omega)];rfl
theorem agY {g:iy} (hn:(mV g).dP.Nodup) {j:Nat} (hj:j<g.d.length) {k:Nat} (hk:k<(dL g j).length):(∀ d∈(mV g).ds.take j,ix (dL g j) k∉d.2)∧ix (dL g j) k∉(dL g j).take k:=by
 unfold GL.dP at hn
 have h1:(mV g).ds=(mV g).ds.take j ++ (dW g j,dL g j)::(mV g).ds.drop (j+1):=by
  rw [← ahV hj,← NU (by rw [Vs];exact hj),List.take_append_drop]
 rw [h1,List.flatMap_append,List.flatMap_cons,List.nodup_append] at hn
 obtain ⟨-,h2,h3⟩:=hn
 refine ⟨fun d hd hm=>h3 _ (List.mem_flatMap.mpr ⟨d,hd,hm⟩) _ (List.mem_append_left _ (jL hk)) rfl,fun hm=>?_⟩
 rw [List.nodup_append] at h2
 have h4:=h2.1
 have h5:(dL g j)=(dL g j).take k ++ ix (dL g j) k::(dL g j).drop (k+1):=by rw [← NU hk,List.take_append_drop]
 have h4:(dL g j).Nodup:=h4
 rw [h5,List.nodup_append] at h4
 exact h4.2.2 _ hm _ (by simp) rfl
theorem adS {g:iy} (x:Nat→Rat) (hn:(mV g).dP.Nodup) {j:Nat} (hj:j<g.d.length) {k:Nat} (hk:k<(ix g.d j).l.length) {e c:Nat} (hec:ix (ix g.d j).l k=⟨.ofNat e,.ofNat c⟩) :
  Ej (rC (zL g x j k)) e c (kC (ZP (dW g j) (fun k=>gq (mV g) x (yZ (ix (ix g.d j).l k))) k))=rC (zL g x j (k+1)):=by
 have hlen:(dL g j).length=(ix g.d j).l.length:=List.length_map _
 have hix : ∀ k,k<(ix g.d j).l.length→ix (dL g j) k=yZ (ix (ix g.d j).l k):=fun k hk=>QS yZ hk
 have hl:ix (dL g j) k=(e,c):=by rw [hix k hk,hec];rfl
 obtain ⟨h1,h2⟩:=agY hn hj (by rw [hlen];exact hk)
 rw [hl] at h1 h2
 have h3:Ot g x j (e,c)=0:=nI fun d hd=>Oo (h1 d hd)
 have hs : ∀ m,m≤(ix g.d j).l.length→aC m (fun k=>gq (mV g) x (yZ (ix (ix g.d j).l k)))=aO ((dL g j).take m) (gq (mV g) x):=fun m hm=>by
  rw [← Rq (by omega)]
  exact bI fun i hi=>by rw [hix i (by omega)]
 funext i' c'
 unfold Ej rC zL
 rw [bD (by omega),Lp,hl]
 by_cases h:i' = e∧c' = c
 ·rw [if_pos h,h.1,h.2,if_pos rfl,h3,Oo h2]
  unfold ZP
  rw [hs k (by omega),hs (k+1) (by omega),bD (by omega),uH,hl]
  simp only [Rat.zero_add]
 ·rw [if_neg h,if_neg fun e=>h ⟨(Prod.mk.inj e).1.symm,(Prod.mk.inj e).2.symm⟩]
  simp only [Rat.add_zero]
theorem adT (n i:Nat):mP n (i+1)=aI (mP n i) 4 (mP n i 4+1):=by
 funext k
 unfold aI
 by_cases h:k=4
 ·subst h;rfl
 ·rw [if_neg h]
  unfold mP
  split <;> first|rfl|omega
section
variable {g:iy} {x:Nat→Rat} {p:Nat→Prop} {h:Tr Bk} {nn bb:Nat→Nat} {T:Nat→Nat→B} {m:Nat} {R:Nat→Nat→Rat} {bs:Nat→Nat} {lo hi:Nat}
theorem vU.rows (hS:vU g x p h nn bb T m R bs lo hi) {k:Nat} {f:Nat→Nat→Rat} (hE:sE k=1) (hG : ∀ j,sG g x T bs k j=[T k j]) (hQ : ∀ j,sQ g x T k p h j→adK (T k) (kE g.e) f p h j) {q:Nat→Prop} (hq : ∀ b,lo≤b→b<hi→q b):oW q h (aN (nn k) (bb k)) (nn k) (kE g.e) f:=by
 have hel:=fun i (hi:i<nn k)=>hQ i (hS.f.q k i hi)
 have h1:=hS.f.hlp k (q:=q) (by omega) (fun j hj=>by rw [hG j];simp only [List.all_cons,List.all_nil,dw.kn (hel j hj),Bool.and_self]) hq
 rw [hE] at h1
 exact ⟨T k,h1.congr fun i _=>hG i,fun i hi=>dw.keep (hel i hi) (fun _ _=>rfl) fun b hb=>hq b (hS.f.pp b hb).1 (hS.f.pp b hb).2⟩
theorem vU.row (hS:vU g x p h nn bb T m R bs lo hi) {n i:Nat} (hn:nn 3=n) (hi:i<n):ld h (bb 3) (i*1) 1 false=some (.c (.sl (bs i) 0 (kE g.e i) (.ex (kE g.e i)))):=by
 obtain ⟨b7,o7,c7,e7,-,uO⟩:=dw.pos (hS.f.hlp 3 (q:=fun _=>True) (by decide) (fun _ _=>rfl) fun _ _ _=>trivial) (show 0<nn 3 by omega)
 rw [oD (by omega)] at e7
 cases e7
 have:=(vO (uO i (by omega))).1
 rw [Nat.zero_add] at this
 exact this
end
end Go.Proofs.Xe
