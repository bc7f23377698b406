/- dR.agree, in the dF words. -/
import Derived.Test.YtjonjhcaniinaaaGreatDoorZ31
set_option linter.all false
set_option maxHeartbeats 8000000
namespace Go.Proofs.Xe
open Go.RowKit Go.Proofs.Ins
structure Fam (p:Nat→Prop) (h:Tr Bk) (nn bb:Nat→Nat) (GG:Nat→Nat→List B) (ee tt:Nat→Nat) (QQ:Nat→(Nat→Prop)→Tr Bk→Nat→Prop) (lo hi:Nat):Prop where
 g : ∀ k,uz (nn k) h (bb k)=gF (nn k) (GG k) (ee k) (tt k)
 L : ∀ k,LG (GG k) (ee k)
 l1 : ∀ k,lo≤bb k
 l2 : ∀ k,nn k=0∨bb k<hi
 ne : ∀ k k',k≠k'→nn k=0∨nn k' = 0∨bb k≠bb k'
 np : ∀ k,nn k=0∨¬ p (bb k)
 q : ∀ k j,j<nn k→QQ k p h j
 pp : ∀ x,p x→lo≤x∧x<hi
section
variable {p p' : Nat→Prop} {h h' h1:Tr Bk} {nn bb:Nat→Nat} {GG GG' : Nat→Nat→List B} {ee tt:Nat→Nat} {QQ QQ' : Nat→(Nat→Prop)→Tr Bk→Nat→Prop} {lo hi:Nat}
theorem Fam.nil (hn : ∀ k,nn k=0) (hL : ∀ k,LG (GG k) (ee k)):Fam (fun _=>False) h nn (fun _=>lo) GG ee tt QQ lo hi :=
 ⟨fun k=>by rw [hn k];rfl,hL,fun _=>jp,fun k=>.inl (hn k),fun k _ _=>.inl (hn k),fun k=>.inl (hn k),fun k j hj=>by rw [hn k] at hj;omega,fun _ h=>h.elim⟩
theorem Fam.keep (ho:Fam p h nn bb GG ee tt QQ lo hi) (hQ : ∀ k j,QK (QQ k) j) (hh : ∀ b,lo≤b→b<hi→h' b=h b) {hi' : Nat} (h2:hi≤hi'):Fam p h' nn bb GG ee tt QQ lo hi':=by
 obtain ⟨g,L,l1,l2,ne,np,q,pp⟩:=ho
 refine ⟨fun k=>?_,L,l1,fun k=>by have:=l2 k;omega,ne,np,fun k j hj=>hQ k j _ _ _ _ (q k j hj) (fun b hb=>hh b (pp b hb).1 (pp b hb).2) fun _ hb=>hb,fun x hx=>by have:=pp x hx;omega⟩
 rw [← g k]
 refine rM ?_
 rcases l2 k with e|e
 ·exact .inl e
 ·exact .inr (hh _ (l1 k) e)
theorem Fam.push (ho:Fam p h nn bb GG ee tt QQ lo hi) (k:Nat) {hi1 nx n' : Nat} (hp : ∀ x,p x→p' x) (hp2 : ∀ x,p' x→p x∨hi≤x∧x<hi1) (hQ : ∀ k j,QK (QQ' k) j) (hQQ : ∀ k j,j<nn k→∀ p h,QQ k p h j→QQ' k p h j) (hG : ∀ k j,j<nn k→GG' k j=GG k j) (hL : ∀ k,LG (GG' k) (ee k))
  (hx:QQ' k p' h1 (nn k)) (hh : ∀ x,lo≤x→x<hi→h1 x=h x) (h2:hi≤hi1) (h3:hi1≤nx) (h4:nx<n') (h5:lo≤hi) {x:List B} (hb:h' nx=some ⟨bH (nn k) (GG k) ++ x,some (ee k,tt k)⟩) (hgn:x=GG' k (nn k)) (hk : ∀ c,lo≤c→c<hi1→nn k=0∨c≠bb k→h' c=h1 c) :
  Fam p' h' (aK nn k (nn k+1)) (aK bb k nx) GG' ee tt QQ' lo n':=by
 obtain ⟨g,L,l1,l2,ne,np,q,pp⟩:=ho
 have hp' : ∀ b,p' b→lo≤b∧b<hi1∧(nn k=0∨b≠bb k):=fun b hb=>by
  rcases hp2 b hb with hb|hb
  ·have h6:=pp b hb
   refine ⟨h6.1,jb,?_⟩
   rcases np k with h7|h7
   ·exact .inl h7
   ·exact .inr fun e=>h7 (e ▸ hb)
  ·refine ⟨jb,hb.2,?_⟩
   have:=l2 k
   omega
 have hnp : ∀ k',nn k' = 0∨¬ p' (bb k'):=fun k'=>by
  rcases np k' with h7|h7
  ·exact .inl h7
  ·rcases l2 k' with h8|h8
   ·exact .inl h8
   ·refine .inr fun hb=>?_
    rcases hp2 _ hb with hb|hb
    ·exact h7 hb
    ·omega
 refine ⟨fun k'=>?_,hL,fun k'=>?_,fun k'=>?_,fun a b hab=>?_,fun k'=>?_,fun k' j hj=>?_,fun x hx=>by have:=hp' x hx;omega⟩
 ·by_cases e:k' = k
  ·subst e
   rw [aH,aH]
   show h' nx=some _
   rw [hb,jF]
   congr 2
   refine dA fun i hi=>?_
   unfold jd
   split
   ·next e=>rw [e,hgn]
   ·rw [hG _ i jb]
  ·rw [aJ _ _ _ _ e,aJ _ _ _ _ e]
   have h6:uz (nn k') h' (bb k')=uz (nn k') h (bb k'):=rM (by
    rcases l2 k' with h8|h8
    ·exact .inl h8
    ·have h9:=ne k' k e
     by_cases e0:nn k' = 0
     ·exact .inl e0
     ·exact .inr (by rw [hk _ (l1 k') jb jb,hh _ (l1 k') h8]))
   rw [h6,g k']
   generalize hm:nn k' = m
   cases m with
   | zero=>rfl
   | succ m=>show some _=some _;rw [dA fun i hi=>(hG k' i jb).symm]
 ·by_cases e:k' = k
  ·subst e;rw [aH];omega
  ·rw [aJ _ _ _ _ e];exact l1 k'
 ·by_cases e:k' = k
  ·subst e;rw [aH bb];exact .inr h4
  ·rw [aJ _ _ _ _ e,aJ _ _ _ _ e]
   have:=l2 k';omega
 ·by_cases ea:a=k
  ·subst ea
   rw [aJ nn _ b _ (Ne.symm hab),aJ bb _ b _ (Ne.symm hab),aH,aH]
   have:=l2 b;omega
  ·by_cases eb:b=k
   ·subst eb
    rw [aJ nn _ a _ ea,aJ bb _ a _ ea,aH,aH]
    have:=l2 a;omega
   ·rw [aJ nn _ a _ ea,aJ bb _ a _ ea,aJ nn _ b _ eb,aJ bb _ b _ eb]
    exact ne a b hab
 ·by_cases e:k' = k
  ·subst e
   rw [aH bb]
   exact .inr fun h=>by have:=hp' _ h;omega
  ·rw [aJ nn _ _ _ e,aJ bb _ _ _ e];exact hnp k'
 ·by_cases e:k' = k∧j=nn k
  ·obtain ⟨rfl,rfl⟩:=e
   exact hQ _ _ _ _ _ _ hx (fun b hb=>hk b (hp' b hb).1 (hp' b hb).2.1 (hp' b hb).2.2) fun _ h=>h
  ·have hj' : j<nn k':=by
    by_cases e2:k' = k
    ·subst e2;rw [aH] at hj;have : ¬ j=nn k':=fun e3=>e ⟨rfl,e3⟩;omega
    ·rwa [aJ _ _ _ _ e2] at hj
   exact hQ _ _ _ _ _ _ (hQQ k' j hj' _ _ (q k' j hj')) (fun b hb=>by have:=hp' b (hp b hb);rw [hk b this.1 this.2.1 this.2.2,hh b (pp b hb).1 (pp b hb).2]) hp
theorem Fam.hlp (ho:Fam p h nn bb GG ee tt QQ lo hi) (k:Nat) (he:0<ee k) (hk : ∀ j,j<nn k→(GG k j).all B.kn=true) {q:Nat→Prop} (hq : ∀ b,lo≤b→b<hi→q b):bW q h (ee k) (aT (nn k) (bb k)) (nn k) (GG k):=by
 have g:=ho.g k
 have hl:=ho.l2 k
 have hL:=ho.L k
 have hlo:=ho.l1 k
 generalize nn k=n at *
 cases n with
 | zero=>exact .inl ⟨rfl,rfl⟩
 | succ n=>exact fV _ g (YT _ _ jb) (hq _ hlo jb) hL he hk
theorem Fam.keep' (ho:Fam p h nn bb GG ee tt QQ lo hi) (hQ : ∀ k j,QK (QQ k) j) (hp : ∀ b,p b→h' b=h b) (hh : ∀ k,nn k=0∨h' (bb k)=h (bb k)):Fam p h' nn bb GG ee tt QQ lo hi:=by
 obtain ⟨g,L,l1,l2,ne,np,q,pp⟩:=ho
 exact ⟨fun k=>(rM (hh k)).trans (g k),L,l1,l2,ne,np,fun k j hj=>hQ k j _ _ _ _ (q k j hj) hp fun _ hb=>hb,pp⟩
structure qH (p:Nat→Prop) (h:Tr Bk) (nn bb:Nat→Nat) (GG:Nat→Nat→List B) (ee tt:Nat→Nat) (QQ:Nat→(Nat→Prop)→Tr Bk→Nat→Prop) (m:Nat) (kk:Nat→Nat) (C:Nat→Nat→List B) (bs:Nat→Nat) (lo hi:Nat):Prop where
 f:Fam p h nn bb GG ee tt QQ lo hi
 r:jL h m kk C bs lo hi
 w : ∀ j,j<m→¬ p (bs j)
 n : ∀ j k,j<m→nn k=0∨bb k≠bs j
variable {m:Nat} {kk:Nat→Nat} {C:Nat→Nat→List B} {bs:Nat→Nat}
theorem qH.keep (ho:qH p h nn bb GG ee tt QQ m kk C bs lo hi) (hQ : ∀ k j,QK (QQ k) j) (hh : ∀ b,lo≤b→b<hi→h' b=h b) {hi' : Nat} (h2:hi≤hi'):qH p h' nn bb GG ee tt QQ m kk C bs lo hi' :=
 ⟨ho.f.keep hQ hh h2,ho.r.mono hh jp h2,ho.w,ho.n⟩
theorem qH.push (ho:qH p h nn bb GG ee tt QQ m kk C bs lo hi) (k:Nat) {hi1 nx n' : Nat} (hp : ∀ x,p x→p' x) (hp2 : ∀ x,p' x→p x∨hi≤x∧x<hi1) (hQ : ∀ k j,QK (QQ' k) j) (hQQ : ∀ k j,j<nn k→∀ p h,QQ k p h j→QQ' k p h j) (hG : ∀ k j,j<nn k→GG' k j=GG k j) (hL : ∀ k,LG (GG' k) (ee k))
  (hx:QQ' k p' h1 (nn k)) (hh : ∀ x,lo≤x→x<hi→h1 x=h x) (h2:hi≤hi1) (h3:hi1≤nx) (h4:nx<n') (h5:lo≤hi) {x:List B} (hb:h' nx=some ⟨bH (nn k) (GG k) ++ x,some (ee k,tt k)⟩) (hgn:x=GG' k (nn k)) (hk : ∀ c,lo≤c→c<hi1→nn k=0∨c≠bb k→h' c=h1 c) :
  qH p' h' (aK nn k (nn k+1)) (aK bb k nx) GG' ee tt QQ' m kk C bs lo n':=by
 refine ⟨ho.f.push k hp hp2 hQ hQQ hG hL hx hh h2 h3 h4 h5 hb hgn hk,ho.r.mono' (fun j hj=>?_) jp jb,fun j hj hb=>?_,fun j i hj=>?_⟩
 ·obtain ⟨-,k2,k3⟩:=ho.r.r j hj
  have:=ho.n j k hj
  rw [hk _ k2 jb jb,hh _ k2 k3]
 ·obtain ⟨-,k2,k3⟩:=ho.r.r j hj
  rcases hp2 _ hb with hb|hb
  ·exact ho.w j hj hb
  ·omega
 ·obtain ⟨-,k2,k3⟩:=ho.r.r j hj
  by_cases e:i=k
  ·subst e;rw [aH bb];omega
  ·rw [aJ nn _ _ _ e,aJ bb _ _ _ e];exact ho.n j i hj
theorem qH.pushRow (ho:qH p h nn bb GG ee tt QQ m kk C bs lo hi) (k:Nat) {hi1 nx n' nb:Nat} (hQ : ∀ k j,QK (QQ' k) j) (hQQ : ∀ k j,j<nn k→∀ p h,QQ k p h j→QQ' k p h j) (hG : ∀ k j,j<nn k→GG' k j=GG k j) (hL : ∀ k,LG (GG' k) (ee k))
  (hx:QQ' k p h1 (nn k)) (hh : ∀ x,lo≤x→x<hi→h1 x=h x) (h2:hi≤hi1) (h3:hi1≤nx) (h4:nx<n') (h5:lo≤hi) {x:List B} (hb:h' nx=some ⟨bH (nn k) (GG k) ++ x,some (ee k,tt k)⟩) (hgn:x=GG' k (nn k)) (hk : ∀ c,lo≤c→c<hi1→nn k=0∨c≠bb k→h' c=h1 c)
  (h6:hi≤nb) (h7:nb<hi1) (hr:h' nb=some ⟨bH (kk m) (C m),none⟩) :
  qH p h' (aK nn k (nn k+1)) (aK bb k nx) GG' ee tt QQ' (m+1) kk C (aK bs m nb) lo n':=by
 have hP:=ho.push k (p':=p) (fun _ h=>h) (fun _ h=>.inl h) hQ hQQ hG hL hx hh h2 h3 h4 h5 hb hgn hk
 refine ⟨hP.f,ho.r.push hr rfl h6 jb jb fun b h8 h9 ⟨i,hi,e⟩=>?_,fun j hj=>?_,fun j i hj=>?_⟩
 ·have:=ho.n i k hi
  subst e
  rw [hk _ h8 jb jb,hh _ h8 h9]
 ·by_cases e:j=m
  ·subst e;rw [aH];exact fun h=>by have:=ho.f.pp _ h;omega
  ·rw [aJ _ _ _ _ e];exact ho.w j jb
 ·by_cases e:j=m
  ·subst e
   rw [aH bs]
   by_cases e2:i=k
   ·subst e2;rw [aH bb];omega
   ·rw [aJ nn _ _ _ e2,aJ bb _ _ _ e2]
    have:=ho.f.l2 i;omega
  ·rw [aJ bs _ _ _ e];exact hP.n j i jb
theorem qH.write (ho:qH p h nn bb GG ee tt QQ m kk C bs lo hi) (hQ : ∀ k j,QK (QQ k) j) {j c:Nat} {x l:List B} (hj:j<m) (hl:l=bH (kk j) (jd (C j) c x)):qH p (hset h (bs j) ⟨l,none⟩) nn bb GG ee tt QQ m kk (tX C j c x) bs lo hi:=by
 refine ⟨ho.f.keep' hQ (fun b hb=>ak _ _ _ _ fun e=>ho.w j hj (e ▸ hb)) (fun k=>?_),ho.r.set hj hl,ho.w,ho.n⟩
 rcases ho.n j k hj with e|e
 ·exact .inl e
 ·exact .inr (ak _ _ _ _ e)
theorem qH.grow (ho:qH p h nn bb GG ee tt QQ m kk C bs lo hi) (hQ : ∀ k j,QK (QQ k) j) (hh : ∀ b,lo≤b→b<hi→h' b=h b) {hi' : Nat} (h2:hi≤hi') (hp : ∀ x,p x→p' x) (hp2 : ∀ x,p' x→p x∨hi≤x∧x<hi') (h3:lo≤hi):qH p' h' nn bb GG ee tt QQ m kk C bs lo hi':=by
 obtain ⟨⟨g,L,l1,l2,ne,np,q,pp⟩,r,w,n⟩:=ho
 refine ⟨⟨fun k=>?_,L,l1,fun k=>by have:=l2 k;omega,ne,fun k=>?_,fun k j hj=>hQ k j _ _ _ _ (q k j hj) (fun b hb=>hh b (pp b hb).1 (pp b hb).2) hp,fun x hx=>?_⟩,r.mono hh jp h2,fun j hj hb=>?_,n⟩
 ·rw [← g k]
  refine rM ?_
  rcases l2 k with e|e
  ·exact .inl e
  ·exact .inr (hh _ (l1 k) e)
 ·rcases np k with e|e
  ·exact .inl e
  ·rcases l2 k with e2|e2
   ·exact .inl e2
   ·refine .inr fun hb=>?_
    rcases hp2 _ hb with hb|hb
    ·exact e hb
    ·omega
 ·rcases hp2 x hx with hb|hb
  ·have:=pp x hb;omega
  ·omega
 ·obtain ⟨-,k2,k3⟩:=r.r j hj
  rcases hp2 _ hb with hb|hb
  ·exact w j hj hb
  ·omega
theorem qH.same (ho:qH p h nn bb GG ee tt QQ m kk C bs lo hi) (k:Nat) {hi1:Nat} (hh : ∀ x,lo≤x→x<hi→h1 x=h x) (h2:hi≤hi1) (hk : ∀ c,lo≤c→c<hi1→nn k=0∨c≠bb k→h' c=h1 c) : ∀ x,p x→h' x=h x:=fun x hx=>by
 have h3:=ho.f.pp x hx
 rw [hk x h3.1 jb ?_,hh x h3.1 h3.2]
 rcases ho.f.np k with e|e
 ·exact .inl e
 ·exact .inr fun e2=>e (e2 ▸ hx)
end
def aqD (p:Nat→Prop) (h:Tr Bk) (lv:B) (el:List qN):Prop:=∃ R P:Nat→B,bW p h 6 lv el.length (fun i=>jD (ix el i).c.length (R i) (P i) (oD (ix el i) (ix el i).c.length))∧∀ i,i<el.length→tN p h (R i) (P i) (kK (ix el i))
def afR (p:Nat→Prop) (h:Tr Bk) (bv:B) (el:List qN) (L:List iJ):Prop:=∃ T:Nat→B,bW p h 1 bv el.length (fun i=>[T i])∧∀ i,i<el.length→bW p h 1 (T i) (ix el i).c.length fun c=>[.bool (L.contains (i,c))]
structure GU (p:Nat→Prop) (h:Tr Bk) (sb:Nat) (g:gK):Prop where
 s : ∃ ev dv lv bv,h sb=some ⟨[ev,dv,lv,bv],none⟩∧qB p h ev dv g∧aqD p h lv g.e∧afR p h bv g.e (fC g).dN
 b:p sb
theorem GU.keep {p q:Nat→Prop} {h h' : Tr Bk} {sb:Nat} {g:gK} (hs:GU p h sb g) (hk : ∀ b,p b→h' b=h b) (hp : ∀ b,p b→q b):GU q h' sb g:=by
 obtain ⟨⟨ev,dv,lv,bv,h1,h2,⟨R,P,h3,h4⟩,T,h5,h6⟩,hb⟩:=hs
 exact ⟨⟨ev,dv,lv,bv,by rw [hk _ hb];exact h1,h2.keep hk hp,⟨R,P,h3.keep hk hp,fun i hi=>(h4 i hi).keep hk hp⟩,T,h5.keep hk hp,fun i hi=>(h6 i hi).keep hk hp⟩,hp _ hb⟩
theorem GU.fr {σ σ' : St} (hf:Fr σ σ') {sb:Nat} {g:gK} (hs:GU (Lt σ.ah) σ.h sb g):GU (Lt σ'.ah) σ'.h sb g:=hs.keep (fun b hb=>hf.old b hb) fun b hb=>Nat.lt_of_lt_of_le hb hf.le
/-! ### Its two lists -/
def xQ (i:Nat):Nat→Nat:=fun k=>if k=2∨k=3 then i else 0
def kE (el:List qN) (i:Nat):Nat:=(ix el i).c.length
def bG (el:List qN) (R P:Nat→B) (bs:Nat→Nat):Nat→Nat→List B
 | 2=>fun i=>jD (ix el i).c.length (R i) (P i) (oD (ix el i) (ix el i).c.length)
 | 3=>fun i=>[uH (kE el) bs i]
 | _=>fun _=>[]
def bE:Nat→Nat
 | 2=>6
 | 3=>1
 | _=>0
def bT:Nat→Nat
 | 2=>114
 | 3=>32
 | _=>0
def bQ (el:List qN) (R P:Nat→B):Nat→(Nat→Prop)→Tr Bk→Nat→Prop
 | 2=>fun p h i=>tN p h (R i) (P i) (kK (ix el i))
 | _=>NoQ
theorem afS (el:List qN) (R P:Nat→B) (bs:Nat→Nat) (k:Nat):LG (bG el R P bs k) (bE k):=by
 intro j
 unfold bG bE
 split <;> rfl
theorem ab1 (el:List qN) (R P:Nat→B) (k j:Nat):QK (bQ el R P k) j:=by
 unfold bQ
 split
 ·exact fun _ _ _ _ hp hk hq=>hp.keep hk hq
 ·exact UF j
def La (L:List iJ) (i c:Nat):List B:=[.bool (L.contains (i,c))]
abbrev XU (el:List qN) (p:Nat→Prop) (h:Tr Bk) (nn bb:Nat→Nat) (R P:Nat→B) (bs:Nat→Nat) (m:Nat) (L:List iJ) (lo hi:Nat):Prop:=qH p h nn bb (bG el R P bs) bE bT (bQ el R P) m (kE el) (La L) bs lo hi
theorem ab2 (i:Nat):aK (aK (xQ i) 2 (xQ i 2+1)) 3 (aK (xQ i) 2 (xQ i 2+1) 3+1)=xQ (i+1):=by
 funext k
 unfold aK xQ
 by_cases h2:k=2
 ·subst h2;rfl
 ·by_cases h3:k=3
  ·subst h3;rfl
  ·simp [h2,h3]
theorem UU {kk bs:Nat→Nat} {m nb j:Nat} (h:j≠m):uH kk (aK bs m nb) j=uH kk bs j:=by unfold uH;rw [aJ _ _ _ _ h]
theorem ZG (i k:Nat):xQ i k≤i:=by unfold xQ;split <;> omega
theorem anH {el:List qN} {R P:Nat→B} {i j:Nat} (h:j<i) (rv pv:B) (k:Nat) (p:Nat→Prop) (H:Tr Bk) (hq:bQ el R P k p H j):bQ el (aK R i rv) (aK P i pv) k p H j:=by
 unfold bQ at hq ⊢
 split
 ·show tN p H (aK R i rv j) (aK P i pv j) _
  rw [aJ _ _ _ _ jb,aJ _ _ _ _ jb];exact hq
 ·trivial
theorem anI {el:List qN} {R P:Nat→B} {bs:Nat→Nat} {i j:Nat} (h:j<i) (rv pv:B) (k:Nat):bG el (aK R i rv) (aK P i pv) bs k j=bG el R P bs k j:=by
 unfold bG
 split
 ·show jD _ (aK R i rv j) (aK P i pv j) _=_
  rw [aJ _ _ _ _ jb,aJ _ _ _ _ jb]
 ·rfl
 ·rfl
theorem anJ {el:List qN} {R P:Nat→B} {bs:Nat→Nat} {m nb j:Nat} (k:Nat) (h:k=3→j<m):bG el R P (aK bs m nb) k j=bG el R P bs k j:=by
 unfold bG
 split
 ·rfl
 ·show [uH _ _ j]=_
  have:=h rfl
  rw [UU jb]
 ·rfl
theorem qI {n:Nat} (h:0<n) (b:Nat):aT n b = .sl b 0 n .opn:=by
 cases n with
 | zero=>omega
 | succ n=>rfl
def yg (dl:List oV) (j:Nat):List iJ:=(dl.take j).flatMap fun d=>d.l.map vU
theorem XV {dl:List oV} {j:Nat} (h:j<dl.length):yg dl (j+1)=yg dl j ++ (ix dl j).l.map vU:=by
 unfold yg
 rw [aZ h,List.flatMap_append]
 simp
theorem ab3 (g:gK):yg g.d g.d.length=(fC g).dN:=by
 unfold yg GL.dN fC
 rw [List.take_length,List.flatMap_map]
theorem ab4 (L:List iJ) (e c:Nat):tX (La L) e c [.bool true]=La (L ++ [(e,c)]):=by
 funext i' c'
 unfold tX La
 rw [List.contains_append]
 by_cases h:i' = e∧c' = c
 ·rw [if_pos h,h.1,h.2];simp
 ·rw [if_neg h]
  have:[(e,c)].contains (i',c')=false:=by simp;omega
  rw [this,Bool.or_false]
def Om (nc:Nat) (al:List fK) (x:x9):Prop:=((x.k = -1∧x.b=true)∨∃ i:Nat,i<nc∧x.k=(i:Int)∧afr al x.k)∧∃ w:Nat,w≤16∧x.a=uo ((Int.ofNat w:Int):Rat)
def AU (nc:Nat) (al:List fK) (t:List x9):Prop:=∀ k,k<t.length→Om nc al (ix t k)
theorem AU.snoc {nc:Nat} {al:List fK} {t:List x9} {x:x9} (h:AU nc al t) (hx:Om nc al x):AU nc al (t ++ [x]):=fun k hk=>by
 rw [List.length_append,List.length_singleton] at hk
 by_cases e:k=t.length
 ·rw [e,fO];exact hx
 ·rw [fM _ _ jb];exact h k jb
theorem ab5 {E:Env} [vK E] {σ:St} {K:V→St→Prop} (w:Nat) (h:w≤9223372036854775807):aO E 45 [.c (.int .i64 (.ofNat w))] σ K=K (.agg [.bool (rn ((Int.ofNat w:Int):Rat)),.str (rs ((Int.ofNat w:Int):Rat)),.str (rd ((Int.ofNat w:Int):Rat))]) σ:=TM _ (by simp only [Int.ofNat_eq_natCast];omega) (by simp only [Int.ofNat_eq_natCast];omega)
attribute [go_sem] ab5
structure TI (σ σ' : St) (tb i nc:Nat) (al:List fK) (ts:Nat→List x9) (bs:Nat→Nat):Prop where
 b:σ'.h tb=some ⟨ones 3 (fun t=>jK (ts t) (bs t)),none⟩
 f:Gz σ'.h 3 JV 5 93 ts bs (tb+1) σ'.ah
 g : ∀ t,t<3→AU nc al (ts t)
 l : ∀ t,t<3→(ts t).length≤i
 n:tb+1≤σ'.ah
 fr:Fr σ σ'
theorem ab6 (ts:Nat→List x9) (bs:Nat→Nat) (t nx:Nat) (x:x9):(fun j=>jK (aK ts t (ts t ++ [x]) j) (aK bs t nx j))=aK (fun j=>jK (ts j) (bs j)) t (.sl nx 0 ((ts t).length+1) .opn):=by
 funext j
 unfold aK
 split
 ·next e=>rw [iO kc,List.length_append];rfl
 ·rfl
theorem ZH (l:List x9):l.length*5≤(bH l.length (fun k=>JV (ix l k))).length:=by rw [pW (e:=5) fun _=>rfl];exact jp
theorem UW (l:List x9):(bH l.length (fun k=>JV (ix l k))).take (l.length*5)=bH l.length (fun k=>JV (ix l k)):=wO fun _=>rfl
section
variable {σ σ' : St} {tb i nc:Nat} {al:List fK} {ts:Nat→List x9} {bs:Nat→Nat}
theorem TI.step (hT:TI σ σ' tb i nc al ts bs) {σ3:St} (hf:Fr σ' σ3):TI σ σ3 tb (i+1) nc al ts bs:=by
 have hn:=hT.n
 have hle:=hf.le
 exact ⟨by rw [hf.old _ jb];exact hT.b,hT.f.mono (fun b _ hb=>hf.old b hb) hle,hT.g,fun t ht=>by have:=hT.l t ht;omega,jb,hT.fr.trans hf⟩
theorem TI.push (hT:TI σ σ' tb i nc al ts bs) {t nx n' : Nat} {x:x9} {h' : Tr Bk} (ht:t<3) (hg:Om nc al x) (hb:h' tb=some ⟨ones 3 (aK (fun j=>jK (ts j) (bs j)) t (.sl nx 0 ((ts t).length+1) .opn)),none⟩)
  (hx:h' nx=some ⟨bH (ts t).length (fun k=>JV (ix (ts t) k)) ++ JV x,some (5,93)⟩) (ho : ∀ b,tb+1≤b→b<σ'.ah→(0<(ts t).length→b≠bs t)→h' b=σ'.h b) (hn:σ'.ah≤nx) (hn' : nx<n') (hf:Fr σ ⟨h',n'⟩) :
  TI σ ⟨h',n'⟩ tb (i+1) nc al (aK ts t (ts t ++ [x])) (aK bs t nx):=by
 have hn0:=hT.n
 refine ⟨?_,?_,fun j hj=>?_,fun j hj=>?_,by show tb+1≤n';omega,hf⟩
 ·rw [ab6];exact hb
 ·refine hT.f.push ht x rfl hx (fun j hj e hp=>?_) jb hn hn'
  obtain ⟨-,k2,k3⟩:=hT.f.blk j hj hp
  exact ho _ k2 k3 fun hp2 e2=>e (hT.f.inj j t hj ht hp hp2 e2)
 ·unfold aK
  split
  ·next e=>exact (hT.g t ht).snoc hg
  ·exact hT.g j hj
 ·unfold aK
  split
  ·next e=>rw [List.length_append,List.length_singleton];have:=hT.l t ht;omega
  ·have:=hT.l j hj;omega
end
theorem bW.plt {σ:St} (hW:WF σ) {p:Nat→Prop} {e n:Nat} {v:B} {G:Nat→List B} (hl:bW p σ.h e v n G):bW (fun b=>p b∧b<σ.ah) σ.h e v n G:=by
 rcases hl with h|⟨b,o,c,h1,h2,h3⟩
 ·exact .inl h
 ·exact .inr ⟨b,o,c,h1,fun h=>⟨h2 h,hW.eU (h3 0 h)⟩,h3⟩
theorem gu.plt {σ:St} (hW:WF σ) {p:Nat→Prop} {v:B} {l:fK} (hl:gu p σ.h v l):gu (fun b=>p b∧b<σ.ah) σ.h v l:=by
 obtain ⟨T,k1,k2⟩:=hl
 exact ⟨T,k1.plt hW,fun j hj=>(k2 j hj).plt hW⟩
theorem agree_end {σ σ' : St} {tb i nc:Nat} {al:List fK} {ts:Nat→List x9} {bs:Nat→Nat} (hW:WF σ) {p:Nat→Prop} {T:Nat→B} (hT2 : ∀ j,j<al.length→gu p σ.h (T j) (ix al j)) (hTk : ∀ j,j<al.length→(T j).kn=true) (hT:TI σ σ' tb i nc al ts bs) (hi:i≤nc+1) (htb:σ.ah≤tb)
  {h' : Tr Bk} {n' rb:Nat} (hr:h' rb=some ⟨bH (al.length+1) (fun j=>[if j<al.length then T j else .sl tb 0 3 (.ex 3)]),some (1,96)⟩) (ho : ∀ b,b<σ'.ah→h' b=σ'.h b) (hrb:σ'.ah≤rb) (hn:rb<n') (hf:Fr σ ⟨h',n'⟩) :
  (∃ rv a,V.c (.sl rb 0 (al.length+1) .opn) = .c rv∧iF (fun b=>p b∨σ.ah≤b∧b<n') h' rv (al ++ [a])∧a.length=3∧∀ t,t<3→AU nc al (ix a t)∧(ix a t).length≤nc+1)∧Fr σ ⟨h',n'⟩:=by
 have hle:=hT.fr.le
 have hn1:=hT.n
 have h3 : ∀ t,t<3→ix [ts 0,ts 1,ts 2] t=ts t:=fun t ht=>by
  match t,ht with
  | 0,_=>rfl
  | 1,_=>rfl
  | 2,_=>rfl
 refine ⟨⟨_,[ts 0,ts 1,ts 2],rfl,⟨fun j=>if j<al.length then T j else .sl tb 0 3 (.ex 3),?_,fun j hj=>?_⟩,rfl,fun t ht=>?_⟩,hf⟩
 ·have:(al ++ [[ts 0,ts 1,ts 2]]).length=al.length+1:=by simp
  rw [this]
  exact fV _ hr rfl (.inr ⟨jb,hn⟩) (fun _=>rfl) jj fun j hj=>by
   dsimp only
   split
   ·next e=>simp only [List.all_cons,List.all_nil,hTk j e,Bool.and_self]
   ·rfl
 ·have hj' : j<al.length+1:=by simpa using hj
  dsimp only
  by_cases e:j<al.length
  ·rw [if_pos e,fM _ _ e]
   refine ((hT2 j e).plt hW).keep (fun b hb=>?_) fun b hb=>.inl hb.1
   rw [ho b jb,hT.fr.old b hb.2]
  ·rw [if_neg e]
   obtain rfl:j=al.length:=jb
   rw [fO]
   refine ⟨fun t=>jK (ts t) (bs t),?_,fun t ht=>?_⟩
   ·have hb:h' tb=some ⟨bH 3 (fun t=>[jK (ts t) (bs t)]),none⟩:=by rw [ho tb jb];exact hT.b
    exact fV _ hb rfl (.inr ⟨htb,jb⟩) (fun _=>rfl) jj fun j _=>by simp only [List.all_cons,List.all_nil,oC,Bool.and_self]
   ·have ht:t<3:=ht
    rw [h3 t ht]
    exact (hT.f.hlp (p:=fun b=>tb+1≤b∧b<σ'.ah) (fun b h1 h2=>⟨h1,h2⟩) (fun _=>rfl) jj (fun _=>rfl) ht).keep (fun b hb=>ho b hb.2) fun b hb=>.inr ⟨jb,jb⟩
 ·rw [h3 t ht]
  exact ⟨hT.g t ht,by have:=hT.l t ht;omega⟩
set_option maxRecDepth 10000 in
theorem ajm {σ:St} (hW:WF σ) {p:Nat→Prop} {x1 x2 x3 C A:B} (al:List fK) (hA:iF p σ.h A al) (hl:anj al) (nc:Nat) (hC:lenV (.c C)=some (.c (.int .i64 (.ofNat nc)))) (hnc:nc≤1000) (h1:x1.kn=true) (h2:x2.kn=true) (h3:x3.kn=true) (h4:C.kn=true)
  (p0 p1 p2:Nat) (b0:p0≤65535) (b1:p1≤65535) (b2:p2≤65535) :
  aO EN 25 [.agg [x1,x2,x3,C,A],.agg [.int .u16 (.ofNat p0),.int .u16 (.ofNat p1),.int .u16 (.ofNat p2)]] σ fun r σ'=>(∃ rv a,r = .c rv∧iF (fun b=>p b∨σ.ah≤b∧b<σ'.ah) σ'.h rv (al ++ [a])∧a.length=3∧∀ t,t<3→AU nc al (ix a t)∧(ix a t).length≤nc+1)∧Fr σ σ':=by
 refine bF (BD.o _ _) BD.h ?_
 unfold BD
 dsimp only
 have hAk:=hA.kn
 simp (maxSteps:=9^9) (disch:=try exact jz) only [go_sem,z3,hAk,hC,h4]
 refine bM.mono (Q:=fun e tm σ'=>e = .exit 0∧∃ ts bs,Tr.aj tm 2 = .c (.ptr σ.ah 0)∧Tr.aj tm 3 = .c (.ptr (σ.ah+1) 0)∧Tr.aj tm 5 = .c (.sl (σ.ah+1+1) 0 3 (.ex 3))
  ∧ σ'.h σ.ah=some ⟨[x1,x2,x3,C,A],none⟩∧σ'.h (σ.ah+1)=some ⟨[.int .u16 (.ofNat p0),.int .u16 (.ofNat p1),.int .u16 (.ofNat p2)],none⟩∧TI σ σ' (σ.ah+1+1) nc nc al ts bs) (aN (fun q tm σ'=>∃ i ts bs,q=nc - i∧i≤nc∧Tr.aj tm 2 = .c (.ptr σ.ah 0)∧Tr.aj tm 3 = .c (.ptr (σ.ah+1) 0)∧Tr.aj tm 5 = .c (.sl (σ.ah+1+1) 0 3 (.ex 3))∧Tr.aj tm 6 = .c (.int .i64 (.ofNat p1))∧Tr.aj tm 17 = .c (.int .i64 (.ofNat nc))∧Tr.aj tm 18 = .c (.int .i64 (.ofNat i))
  ∧ σ'.h σ.ah=some ⟨[x1,x2,x3,C,A],none⟩∧σ'.h (σ.ah+1)=some ⟨[.int .u16 (.ofNat p0),.int .u16 (.ofNat p1),.int .u16 (.ofNat p2)],none⟩∧TI σ σ' (σ.ah+1+1) i nc al ts bs) nc ?_ ?_) ?_
 ·refine ⟨0,fun _=>[],fun _=>0,jb,jb,?_⟩
  simp (maxSteps:=9^9) (disch:=try exact jz) only [go_sem,z3,true_and]
  refine ⟨?_,Gz.nil _ _ _ _ _ _ _ _,fun t _ k hk=>by simp at hk,fun t _=>Nat.le_refl 0,jp,?_⟩
  ·rw [aA];rfl
  ·exact fr
 ·rintro q tm σ' ⟨i,ts,bs,rfl,hi,t2,t3,t5,t6,t17,oK,q1,q2,hT⟩
  have hle:=hT.fr.le
  have hn:=hT.n
  have hr:=uX p1 (2 ^ min (2*i) 64) 9223372036854775807 jb
  simp (maxSteps:=9^9) (disch:=try exact jz) only [go_sem,z3,t2,t3,t5,t6,t17,oK,aP]
  refine aI (fun hlt=>?_) (fun hlt=>?_)
  ·simp (maxSteps:=9^9) (disch:=try exact jz) only [go_sem,z3,t2,t3,t5,t6,t17,oK]
   have hx3:(p1/2 ^ min (2*i) 64) &&& 3≤3:=Nat.and_le_right
   generalize (p1/2 ^ min (2*i) 64) &&& 3=x at *
   refine TQ (fun hx0=>?_) (fun hx0=>?_)
   ·simp (maxSteps:=9^9) (disch:=try exact jz) only [go_sem,z3,t2,t3,t5,t6,t17,oK,hx0]
    exact ⟨nc - (i+1),jb,i+1,ts,bs,rfl,jb,rfl,q1,q2,hT.step (Fr.refl hT.fr.wf)⟩
   ·have Oj:=hT.b
    simp (maxSteps:=9^9) (disch:=try exact jz) only [go_sem,z3,t2,t3,t5,t6,t17,oK,hx0,au q1,h1,h2,h3,h4,hAk]
    refine (ank hT.fr.wf al (hA.fr hW hT.fr) hl h1 h2 h3 h4 (.ofNat i)).mono ?_
    rintro _ σ3 ⟨⟨fb,rfl,hfb⟩,hf3⟩
    have q1':=hf3.get hT.fr.wf q1
    have q2':=hf3.get hT.fr.wf q2
    simp (maxSteps:=9^9) (disch:=try exact jz) only [go_sem,z3,t2,t3,t5,t6,t17,oK]
    cases fb
    ·simp (maxSteps:=9^9) (disch:=try exact jz) only [go_sem,z3,t2,t3,t5,t6,t17,oK]
     exact ⟨nc - (i+1),jb,i+1,ts,bs,rfl,jb,rfl,q1',q2',hT.step hf3⟩
    ·have Fp:=hT.step hf3
     have hf0:=hfb rfl
     have hF3:=Fp.fr
     have Oj:=Fp.b
     have hn3:=Fp.n
     have hle3:=Fp.fr.le
     have hkn:=oC (ts (x - 1)) (bs (x - 1))
     have hpl:=ZH (ts (x - 1))
     have hpt:=UW (ts (x - 1))
     have hxl:=Fp.l (x - 1) jb
     have hr2:=uX p2 (2 ^ min i 64) 9223372036854775807 jb
     have hr3:=uX p2 (2 ^ min 6 16) 9223372036854775807 jb
     have hgood : ∀ (b:Bool) (w:Nat),w≤16→Om nc al ⟨.ofNat i,b,uo ((Int.ofNat w:Int):Rat)⟩:=fun b w hw=>⟨.inr ⟨i,hlt,rfl,hf0⟩,w,hw,rfl⟩
     simp (maxSteps:=9^9) (disch:=try exact jz) only [go_sem,z3,t2,t3,t5,t6,t17,oK,au q2']
     refine aI (fun hcap=>?_) (fun hcap=>?_)
     ·by_cases hz:(ts (x - 1)).length=0
      ·have he:jK (ts (x - 1)) (bs (x - 1)) = .aY:=by unfold jK;rw [if_pos hz]
       simp (maxSteps:=9^9) (disch:=try exact jz) only [go_sem,z3,t2,t3,t5,t6,t17,oK,au q2',au Oj,Oj,he]
       refine ⟨nc - (i+1),jb,i+1,aK ts (x - 1) (ts (x - 1) ++ [⟨.ofNat i,true,uo ((Int.ofNat (p2/2 ^ min 6 16%9):Int):Rat)⟩]),aK bs (x - 1) (σ3.ah+1+1),rfl,jb,rfl,?_,?_,TI.push (i:=i) ⟨Fp.b,Fp.f,Fp.g,fun t ht=>?_,Fp.n,Fp.fr⟩ jb (hgood true (p2/2 ^ min 6 16%9) jb) ?_ ?_ ?_ ?_ ?_ ?_⟩
       ·exact q1'
       ·exact q2'
       ·exact hT.l t ht
       ·rw [hz,aA]
       ·rw [ak _ _ _ _ jb,aA,hz];rfl
       ·intro b h1 h2 h3
        simp (disch:=omega) only [ak]
       ·omega
       ·omega
       ·exact fr
      ·have he:=iO (l:=ts (x - 1)) jb (bs (x - 1))
       obtain ⟨k1,k2,k3⟩:=Fp.f.blk (x - 1) jb jb
       simp (maxSteps:=9^9) (disch:=try exact jz) only [go_sem,z3,t2,t3,t5,t6,t17,oK,au q2',au Oj,Oj,he,k1,hpt]
       refine ⟨nc - (i+1),jb,i+1,aK ts (x - 1) (ts (x - 1) ++ [⟨.ofNat i,true,uo ((Int.ofNat (p2/2 ^ min 6 16%9):Int):Rat)⟩]),aK bs (x - 1) (σ3.ah+1+1),rfl,jb,rfl,?_,?_,TI.push (i:=i) ⟨Fp.b,Fp.f,Fp.g,fun t ht=>?_,Fp.n,Fp.fr⟩ jb (hgood true (p2/2 ^ min 6 16%9) jb) ?_ ?_ ?_ ?_ ?_ ?_⟩
       ·exact q1'
       ·exact q2'
       ·exact hT.l t ht
       ·rw [aA]
       ·rw [ak _ _ _ _ jb,aA];rfl
       ·intro b h1 h2 h3
        have h3:=h3 jb
        simp (disch:=first|assumption|omega) only [ak,gI]
       ·omega
       ·omega
       ·exact fr
     ·by_cases hz:(ts (x - 1)).length=0
      ·have he:jK (ts (x - 1)) (bs (x - 1)) = .aY:=by unfold jK;rw [if_pos hz]
       simp (maxSteps:=9^9) (disch:=try exact jz) only [go_sem,z3,t2,t3,t5,t6,t17,oK,au q2',au Oj,Oj,he]
       refine ⟨nc - (i+1),jb,i+1,aK ts (x - 1) (ts (x - 1) ++ [⟨.ofNat i,false,uo ((Int.ofNat (0):Int):Rat)⟩]),aK bs (x - 1) (σ3.ah+1+1),rfl,jb,rfl,?_,?_,TI.push (i:=i) ⟨Fp.b,Fp.f,Fp.g,fun t ht=>?_,Fp.n,Fp.fr⟩ jb (hgood false (0) jb) ?_ ?_ ?_ ?_ ?_ ?_⟩
       ·exact q1'
       ·exact q2'
       ·exact hT.l t ht
       ·rw [hz,aA]
       ·rw [ak _ _ _ _ jb,aA,hz];rfl
       ·intro b h1 h2 h3
        simp (disch:=omega) only [ak]
       ·omega
       ·omega
       ·exact fr
      ·have he:=iO (l:=ts (x - 1)) jb (bs (x - 1))
       obtain ⟨k1,k2,k3⟩:=Fp.f.blk (x - 1) jb jb
       simp (maxSteps:=9^9) (disch:=try exact jz) only [go_sem,z3,t2,t3,t5,t6,t17,oK,au q2',au Oj,Oj,he,k1,hpt]
       refine ⟨nc - (i+1),jb,i+1,aK ts (x - 1) (ts (x - 1) ++ [⟨.ofNat i,false,uo ((Int.ofNat (0):Int):Rat)⟩]),aK bs (x - 1) (σ3.ah+1+1),rfl,jb,rfl,?_,?_,TI.push (i:=i) ⟨Fp.b,Fp.f,Fp.g,fun t ht=>?_,Fp.n,Fp.fr⟩ jb (hgood false (0) jb) ?_ ?_ ?_ ?_ ?_ ?_⟩
       ·exact q1'
       ·exact q2'
       ·exact hT.l t ht
       ·rw [aA]
       ·rw [ak _ _ _ _ jb,aA];rfl
       ·intro b h1 h2 h3
        have h3:=h3 jb
        simp (disch:=first|assumption|omega) only [ak,gI]
       ·omega
       ·omega
       ·exact fr
  ·have:i=nc:=jb
   subst this
   simp (maxSteps:=9^9) (disch:=try exact jz) only [go_sem,z3,true_and]
   exact ⟨ts,bs,t2,t3,t5,q1,q2,hT⟩
 ·rintro _ tm σ' ⟨rfl,ts,bs,t2,t3,t5,q1,q2,hT⟩
  have hF:=hT.fr
  have hle:=hT.fr.le
  have hn:=hT.n
  have Oj:=hT.b
  have hr0:=uX p0 8 65535 b0
  have hr1:=uX p0 32 65535 b0
  have hr2:=uX p0 96 65535 b0
  show bM EN (.seq _ _) _ _ _
  refine Zw (fun tm σ3=>∃ ts bs i2,i2≤nc+1∧Tr.aj tm 2 = .c (.ptr σ.ah 0)∧Tr.aj tm 5 = .c (.sl (σ.ah+1+1) 0 3 (.ex 3))∧σ3.h σ.ah=some ⟨[x1,x2,x3,C,A],none⟩∧TI σ σ3 (σ.ah+1+1) i2 nc al ts bs) ?_ ?_
  ·simp (maxSteps:=9^9) (disch:=try exact jz) only [go_sem,z3,t2,t3,t5,au q2]
   refine aI (fun hcap=>?_) (fun hcap=>?_)
   ·generalize hx:p0/32%3=x at *
    have hx3:x<3:=jb
    have hkn:=oC (ts x) (bs x)
    have hpl:=ZH (ts x)
    have hpt:=UW (ts x)
    have hxl:=hT.l x hx3
    have hgood:Om nc al ⟨-1,true,uo ((Int.ofNat (p0/96%7):Int):Rat)⟩:=⟨.inl ⟨rfl,rfl⟩,_,jb,rfl⟩
    by_cases hz:(ts x).length=0
    ·have he:jK (ts x) (bs x) = .aY:=by unfold jK;rw [if_pos hz]
     simp (maxSteps:=9^9) (disch:=try exact jz) only [go_sem,z3,t2,t3,t5,hx,au q2,au Oj,Oj,he]
     refine ⟨aK ts x (ts x ++ [⟨-1,true,uo ((Int.ofNat (p0/96%7):Int):Rat)⟩]),aK bs x (σ'.ah+1),nc+1,jb,q1,TI.push hT hx3 hgood ?_ ?_ ?_ ?_ ?_ ?_⟩
     ·rw [hz,aA]
     ·rw [ak _ _ _ _ jb,aA,hz];rfl
     ·intro b h1 h2 h3
      simp (disch:=omega) only [ak]
     ·omega
     ·omega
     ·exact fr
    ·have he:=iO (l:=ts x) jb (bs x)
     obtain ⟨k1,k2,k3⟩:=hT.f.blk x hx3 jb
     simp (maxSteps:=9^9) (disch:=try exact jz) only [go_sem,z3,t2,t3,t5,hx,au q2,au Oj,Oj,he,k1,hpt]
     refine ⟨aK ts x (ts x ++ [⟨-1,true,uo ((Int.ofNat (p0/96%7):Int):Rat)⟩]),aK bs x (σ'.ah+1),nc+1,jb,q1,TI.push hT hx3 hgood ?_ ?_ ?_ ?_ ?_ ?_⟩
     ·rw [aA]
     ·rw [ak _ _ _ _ jb,aA];rfl
     ·intro b h1 h2 h3
      have h3:=h3 jb
      simp (disch:=first|assumption|omega) only [ak,gI]
     ·omega
     ·omega
     ·exact fr
   ·simp (maxSteps:=9^9) (disch:=try exact jz) only [go_sem,z3,true_and]
    exact ⟨ts,bs,nc,jb,t2,t5,q1,hT⟩
  ·rintro tm σ3 ⟨ts,bs,i2,hi2,t2,t5,q1,hT⟩
   have hF:=hT.fr
   have hle:=hT.fr.le
   have hn:=hT.n
   obtain ⟨T,hT1,hT2⟩:=hA
   have hTk : ∀ j,j<al.length→(T j).kn=true:=fun j hj=>by
    obtain ⟨b,o,c,e,-,hld⟩:=hT1.pos jb
    exact (tK (hld j hj)).2
   have hal:=hl.1
   have hAk:=hT1.kn
   by_cases h0:al.length=0
   ·have hA0:A = .aY∨∃ b o c,A = .sl b o 0 c:=by
     rcases hT1 with ⟨-,e⟩|⟨b,o,c,e,-⟩
     ·exact .inl e
     ·exact .inr ⟨b,o,c,by rw [e,h0]⟩
    have hfin : ∀ h' : Tr Bk,h' = hset (hset σ3.h σ3.ah ⟨[.sl (σ.ah+1+1) 0 3 (.ex 3)],none⟩) (σ3.ah+1) ⟨[.sl (σ.ah+1+1) 0 3 (.ex 3)],some (1,96)⟩→(∃ rv a,V.c (.sl (σ3.ah+1) 0 1 .opn) = .c rv∧iF (fun b=>p b∨σ.ah≤b∧b<σ3.ah+1+1) h' rv (al ++ [a])∧a.length=3∧∀ t,t<3→AU nc al (ix a t)∧(ix a t).length≤nc+1)∧Fr σ ⟨h',σ3.ah+1+1⟩:=fun h' e=>by
     subst e
     have:=agree_end (rb:=σ3.ah+1) (n':=σ3.ah+1+1) (h':=hset (hset σ3.h σ3.ah ⟨[.sl (σ.ah+1+1) 0 3 (.ex 3)],none⟩) (σ3.ah+1) ⟨[.sl (σ.ah+1+1) 0 3 (.ex 3)],some (1,96)⟩) hW hT2 hTk hT hi2 jb (by rw [aA,h0];rfl) (fun b9 h9=>by simp (disch:=omega) only [ak]) jb jb (fr)
     rw [h0] at this
     exact this
    rcases hA0 with rfl|⟨b,o,c,rfl⟩
    ·simp (maxSteps:=9^9) (disch:=try exact jz) only [go_sem,z3,t2,t5,au q1,h1,h2,h3,h4,hAk]
     exact hfin _ rfl
    ·simp (maxSteps:=9^9) (disch:=try exact jz) only [go_sem,z3,t2,t5,au q1,h1,h2,h3,h4,hAk]
     exact hfin _ rfl
   ·obtain ⟨b,o,c,rfl,-,hld⟩:=hT1.pos jb
    have hbl:=hW.eU (hld 0 jb)
    obtain ⟨kk,e1,e2,e3,e4,e5⟩:=NW jb fun i hi=>hF.ld hW (hld i hi)
    simp (maxSteps:=9^9) (disch:=try exact jz) only [go_sem,z3,t2,t5,au q1,h1,h2,h3,h4,hAk,e1,e3,e4,e5,e2]
    refine agree_end hW hT2 hTk hT hi2 jb ?_ ?_ jb jb ?_
    ·rw [aA,wO (e:=1) (G:=fun i=>[T i]) (fun _=>rfl),jF]
     congr 2
     refine dA fun j hj=>?_
     unfold jd
     by_cases e:j=al.length
     ·rw [if_pos e,if_neg jb]
     ·rw [if_neg e,if_pos jb]
    ·intro b9 h9
     simp (disch:=omega) only [ak,gI]
    ·exact fr
end Go.Proofs.Xe
