/- A group without errors as a flow: plain. -/
import Derived.Test.YtjonjhcaniinaaaGreatDoorZ27
set_option linter.all false
namespace Go.Proofs.Ins
/-! ### A group as a flow -/
structure GL where
 e:Nat→iq
 k:Nat→Nat
 h:Nat→Nat→Int
 ds:List (Rat×List iJ)
def GL.dN (g:GL):List iJ:=g.ds.flatMap (·.2)
def gq (g:GL) (x:Nat→Rat) (l:iJ):Rat:=sK (g.e l.1) (x l.1) l.2
def gs (g:GL) (x:Nat→Rat) (i:Nat) (l:iJ):Rat:=if l.1=i then yx (g.e l.1) (x l.1) l.2 else 0
def zu (g:GL) (d:Rat×List iJ):Int:=match d.2 with|[]=>-1|l::_=>g.h l.1 l.2
def dG (g:GL) (x:Nat→Rat) (j:Nat) (d:Rat×List iJ):Rat:=(if zu g d=(j:Int) then jW d.1 (aF d.2 (gq g x)) else 0)+pF d.1 (gq g x) 0 d.2 j
def dM (g:GL) (x:Nat→Rat) (j i:Nat) (d:Rat×List iJ):Rat :=
 (if zu g d=(j:Int) then aF d.2 (gs g x i) - mJ d.1 (aF d.2 (gq g x)) (aF d.2 (gs g x i)) else 0)+kZ d.1 (gq g x) (gs g x i) 0 0 0 d.2 j
def vS (g:GL) (j i c:Nat):Bool:=!(g.dN.contains (i,c)) && g.h i c == (j:Int)
def gG (n:Nat) (g:GL) (x:Nat→Rat) (j:Nat):Rat:=aB n (fun i=>aB (g.k i) fun c=>if vS g j i c then gq g x (i,c) else 0)+aF g.ds (dG g x j)
def gM (n:Nat) (g:GL) (x:Nat→Rat) (j i:Nat):Rat:=aB (g.k i) (fun c=>if vS g j i c then gs g x i (i,c) else 0)+aF g.ds (dM g x j i)
structure Vo (n:Nat) (g:GL):Prop where
 nn : ∀ i,i<n→J9 (g.e i)
 inn : ∀ i,i<n→InE (g.k i) (g.e i)
 hold : ∀ i c,i<n→c<g.k i→g.h i c = -1∨0≤g.h i c∧g.h i c<n
 dN : ∀ l∈g.dN,l.1<n∧l.2<g.k l.1
 nodup:g.dN.Nodup
 pos : ∀ d∈g.ds,0≤d.1
section
variable {n:Nat} {g:GL}
theorem abR (hg:Vo n g) {d:Rat×List iJ} (hd:d∈g.ds):zu g d = -1∨0≤zu g d∧zu g d<n:=by
 unfold zu
 split
 ·exact .inl rfl
 ·next l t e =>
  have h1:=hg.dN l (by unfold GL.dN;exact List.mem_flatMap.mpr ⟨d,hd,by rw [e];simp⟩)
  exact hg.hold _ _ h1.1 h1.2
theorem zy (hg:Vo n g) {d:Rat×List iJ} (hd:d∈g.ds) {l:iJ} (hl:l∈d.2):l.1<n :=
 (hg.dN l (List.mem_flatMap.mpr ⟨d,hd,hl⟩)).1
theorem anm (hg:Vo n g) {d:Rat×List iJ} (hd:d∈g.ds) (v:Rat):aB n (fun j=>if zu g d=(j:Int) then v else 0)=if zu g d = -1 then 0 else v:=by
 rcases abR hg hd with h|⟨h1,h2⟩
 ·rw [if_pos h];exact dw fun j _=>by rw [if_neg jb]
 ·rw [if_neg jb,jI (k:=(zu g d).toNat) jb fun j _ hne=>if_neg jb,if_pos jb]
theorem ajf (hg:Vo n g) {i c:Nat} (hi:i<n) (hc:c<g.k i) (v:Rat):aB n (fun j=>if vS g j i c then v else 0)=if (i,c)∈g.dN∨g.h i c = -1 then 0 else v:=by
 by_cases hl:(i,c)∈g.dN
 ·rw [if_pos (.inl hl)]
  exact dw fun j _=>by
   unfold vS
   rw [if_neg];simp [hl]
 ·rcases hg.hold i c hi hc with h|⟨h1,h2⟩
  ·rw [if_pos (.inr h)]
   exact dw fun j _=>by
    unfold vS
    rw [if_neg];simp [h]
  ·rw [if_neg (by simp [hl];omega),jI (k:=(g.h i c).toNat) jb fun j _ hne=>?_,if_pos ?_]
   ·unfold vS;simp [hl];omega
   ·rw [if_neg];unfold vS;simp;omega
theorem afw (hg:Vo n g) {x:Nat→Rat} (hx:Nn n x) {l:iJ} (hl:l.1<n):0≤gq g x l:=Xy (hg.nn _ hl) (hx _ hl) _
def nC (n:Nat) (q:iJ→Rat) (l:iJ):Rat:=if l.1<n then q l else 0
theorem Ie {W:Rat} {q:iJ→Rat} (j:Nat) : ∀ (t:List iJ) (Q:Rat),(∀ l∈t,l.1<n)→pF W (nC n q) Q t j=pF W q Q t j
 | [],_,_=>rfl
 | l::t,Q,h=>by
  have e:nC n q l=q l:=if_pos (h l kc)
  unfold pF
  rw [e,Ie j t _ fun u hu=>h u (by simp [hu])]
theorem Qz {W:Rat} {q r:iJ→Rat} (j:Nat) : ∀ (t:List iJ) (Q R B:Rat),(∀ l∈t,l.1<n)→kZ W (nC n q) (nC n r) Q R B t j=kZ W q r Q R B t j
 | [],_,_,_,_=>rfl
 | l::t,Q,R,B,h=>by
  have e:nC n q l=q l:=if_pos (h l kc)
  have e2:nC n r l=r l:=if_pos (h l kc)
  unfold kZ
  rw [e,e2,Qz j t _ _ _ fun u hu=>h u (by simp [hu])]
theorem KF (gf:iJ→Rat) : ∀ L:List iJ,L.Nodup→(∀ l∈L,l.1<n∧l.2<g.k l.1)→aB n (fun i=>aB (g.k i) fun c=>if (i,c)∈L then gf (i,c) else 0)=aF L gf
 | [],_,_=>dw fun i _=>dw fun c _=>by simp
 | p::t,hn,hl=>by
  rw [List.nodup_cons] at hn
  have hp:=hl p kc
  have e:aB n (fun i=>aB (g.k i) fun c=>if (i,c)∈p::t then gf (i,c) else 0)=aB n fun i=>(if i=p.1 then gf p else 0)+aB (g.k i) fun c=>if (i,c)∈t then gf (i,c) else 0:=aS fun i _=>by
   have e2:(if i=p.1 then gf p else 0)=aB (g.k i) fun c=>if i=p.1∧c=p.2 then gf p else 0:=by
    by_cases h:i=p.1
    ·subst h
     rw [if_pos rfl,jI hp.2 fun c _ hne=>if_neg fun h=>hne h.2,if_pos ⟨rfl,rfl⟩]
    ·rw [if_neg h];exact (dw fun c _=>if_neg fun h2=>h h2.1).symm
   rw [e2,← dH]
   refine aS fun c _=>?_
   by_cases h:i=p.1∧c=p.2
   ·have e3:(i,c)=p:=by rw [h.1,h.2]
    rw [e3,if_pos kc,if_pos h,if_neg hn.1];grind
   ·have e3:(i,c)≠p:=fun e=>h (by rw [← e];exact ⟨rfl,rfl⟩)
    rw [if_neg h]
    by_cases h2:(i,c)∈t
    ·rw [if_pos (by simp [h2]),if_pos h2];grind
    ·rw [if_neg (by simp [h2,e3]),if_neg h2];grind
  have hd:aB n (fun i=>if i=p.1 then gf p else 0)=gf p:=by
   rw [jI hp.1 fun i _ hne=>if_neg hne,if_pos rfl]
  rw [e,dH,hd,KF gf t hn.2 fun l hl'=>hl l (by simp [hl'])]
  rfl
theorem KH {α:Type} (l:List α) (f:α→List iJ) (gf:iJ→Rat):aF (l.flatMap f) gf=aF l fun a=>aF (f a) gf:=by
 induction l with
 | nil=>rfl
 | cons a l ih =>
  rw [List.flatMap_cons]
  have : ∀ (u v:List iJ),aF (u ++ v) gf=aF u gf+aF v gf:=fun u v=>by
   induction u with
   | nil=>unfold aF;simp;grind
   | cons x u ih =>
    show gf x+aF (u ++ v) gf=gf x+aF u gf+aF v gf
    rw [ih];grind
  rw [this,ih];rfl
def Uu (g:GL) (x:Nat→Rat) (i c:Nat):Rat:=if (i,c)∉g.dN∧g.h i c = -1 then gq g x (i,c) else 0
def abS (g:GL) (x:Nat→Rat) (d:Rat×List iJ):Rat:=if zu g d = -1 then jW d.1 (aF d.2 (gq g x)) else 0
theorem afx (hg:Vo n g) (x:Nat→Rat) (hx:Nn n x):aB n (fun i=>x i - gG n g x i)=aB n (fun i=>x i - aB (g.k i) (sK (g.e i) (x i)))+aB n (fun i=>aB (g.k i) (Uu g x i))+aF g.ds (abS g x):=by
 have a1:aB n (fun j=>aB n fun i=>aB (g.k i) fun c=>if vS g j i c then gq g x (i,c) else 0)=aB n fun i=>aB (g.k i) fun c=>if (i,c)∈g.dN∨g.h i c = -1 then 0 else gq g x (i,c):=by
  rw [N8]
  refine aS fun i hi=>?_
  rw [N8]
  exact aS fun c hc=>ajf hg hi hc _
 have a2:aB n (fun j=>aF g.ds (dG g x j))=aF g.ds fun d=>(if zu g d = -1 then 0 else jW d.1 (aF d.2 (gq g x)))+kJ (aF d.2 (gq g x) - d.1):=by
  rw [nJ g.ds fun d j=>dG g x j d]
  refine dQ fun d hd=>?_
  have e:aB n (fun j=>dG g x j d)=aB n (fun j=>if zu g d=(j:Int) then jW d.1 (aF d.2 (gq g x)) else 0)+aB n fun j=>pF d.1 (gq g x) 0 d.2 j:=by rw [← dH];rfl
  rw [e,anm hg hd,Zm d.2 0 fun l hl=>zy hg hd hl]
  have h0:=hg.pos d hd
  have e2:kJ (0 - d.1)=0:=by unfold kJ;split <;> grind
  rw [e2,Rat.zero_add];grind
 have a3:aB n (fun i=>aB (g.k i) fun c=>if (i,c)∈g.dN then gq g x (i,c) else 0)=aF g.ds fun d=>aF d.2 (gq g x):=by
  rw [KF (gq g x) g.dN hg.nodup hg.dN]
  exact KH _ _ _
 have a4:aB n (fun i=>aB (g.k i) fun c=>if (i,c)∈g.dN∨g.h i c = -1 then 0 else gq g x (i,c))=aB n (fun i=>aB (g.k i) (sK (g.e i) (x i))) - aB n (fun i=>aB (g.k i) fun c=>if (i,c)∈g.dN then gq g x (i,c) else 0) - aB n (fun i=>aB (g.k i) (Uu g x i)):=by
  rw [← kH,← kH]
  refine aS fun i _=>?_
  rw [← kH,← kH]
  refine aS fun c _=>?_
  have e:sK (g.e i) (x i) c=gq g x (i,c):=rfl
  rw [e]
  unfold Uu
  by_cases h1:(i,c)∈g.dN
  ·rw [if_pos (.inl h1),if_pos h1,if_neg fun h=>h.1 h1];grind
  ·by_cases h2:g.h i c = -1
   ·rw [if_pos (.inr h2),if_neg h1,if_pos ⟨h1,h2⟩];grind
   ·rw [if_neg (by simp [h1,h2]),if_neg h1,if_neg fun h=>h2 h.2];grind
 have a5:aF g.ds (fun d=>(if zu g d = -1 then 0 else jW d.1 (aF d.2 (gq g x)))+kJ (aF d.2 (gq g x) - d.1))=aF g.ds (fun d=>aF d.2 (gq g x)) - aF g.ds (abS g x):=by
  rw [← DI]
  refine dQ fun d hd=>?_
  unfold abS
  have e:jW d.1 (aF d.2 (gq g x))+kJ (aF d.2 (gq g x) - d.1)=aF d.2 (gq g x):=by unfold jW kJ;split <;> split <;> grind
  split <;> grind
 have a6:aB n (fun i=>x i - gG n g x i)=aB n x - (aB n (fun j=>aB n fun i=>aB (g.k i) fun c=>if vS g j i c then gq g x (i,c) else 0)+aB n fun j=>aF g.ds (dG g x j)):=by
  rw [← dH,← kH];rfl
 have a7:aB n (fun i=>x i - aB (g.k i) (sK (g.e i) (x i)))=aB n x - aB n (fun i=>aB (g.k i) (sK (g.e i) (x i))):=kH n _ _
 rw [a6,a1,a2,a4,a3,a5,a7];grind
theorem ajg (hg:Vo n g) {x y:Nat→Rat} (hx:Nn n x) (hxy:Le n x y):aB n (fun i=>x i - gG n g x i)≤aB n (fun i=>y i - gG n g y i):=by
 rw [afx hg x hx,afx hg y (hx.le hxy)]
 have h0 : ∀ l:iJ,l.1<n→gq g x l≤gq g y l:=fun l hl=>Us (hg.nn _ hl) (hx _ hl) (hxy _ hl) _
 have h1:aB n (fun i=>x i - aB (g.k i) (sK (g.e i) (x i)))≤aB n (fun i=>y i - aB (g.k i) (sK (g.e i) (y i))) :=
  uZ fun i hi=>Uw (hg.nn i hi) (hg.inn i hi) (hx i hi) (hxy i hi)
 have h2:aB n (fun i=>aB (g.k i) (Uu g x i))≤aB n (fun i=>aB (g.k i) (Uu g y i)):=uZ fun i hi=>uZ fun c _=>by
  have:=h0 (i,c) hi
  unfold Uu;split <;> grind
 have h3:aF g.ds (abS g x)≤aF g.ds (abS g y):=rU fun d hd=>by
  have a:aF d.2 (gq g x)≤aF d.2 (gq g y):=rU fun l hl=>h0 l (zy hg hd hl)
  unfold abS jW;split <;> (try split) <;> (try split) <;> grind
 grind
def gr (g:GL) (x d:Nat→Rat) (l:iJ):Rat:=yx (g.e l.1) (x l.1) l.2*d l.1
structure Ok (n:Nat) (g:GL) (x d:Nat→Rat) (s:Rat):Prop where
 e : ∀ i,i<n→∀ c,c<g.k i→sK (g.e i) (x i+s*d i) c=sK (g.e i) (x i) c+s*d i*yx (g.e i) (x i) c
 d : ∀ d'∈g.ds,okD d'.1 (gq g x) (gr g x d) s 0 0 d'.2
theorem afy {x d:Nat→Rat} {l:iJ} (hl:l.1<n):aB n (fun i=>gs g x i l*d i)=gr g x d l:=by
 unfold gs gr
 rw [jI hl fun i _ hne=>by rw [if_neg fun h=>hne h.symm,Rat.zero_mul],if_pos rfl]
theorem aqv (hg:Vo n g) {x:Nat→Rat} (hx:Nn n x) {l:iJ} (hl:l.1<n) (i:Nat):0≤gs g x i l:=by
 unfold gs;split
 ·exact H9 (hg.nn _ hl) (hx _ hl) _
 ·exact Rat.le_refl
theorem QA {W:Rat} {q r:iJ→Rat} {s:Rat} : ∀ (t:List iJ) (Q R:Rat),(∀ l∈t,l.1<n)→(okD W (nC n q) (nC n r) s Q R t↔okD W q r s Q R t)
 | [],_,_,_=>Iff.rfl
 | l::t,Q,R,h=>by
  have e:nC n q l=q l:=if_pos (h l kc)
  have e2:nC n r l=r l:=if_pos (h l kc)
  unfold okD
  rw [e,e2,QA t _ _ fun u hu=>h u (by simp [hu])]
theorem afz (hg:Vo n g) {x d:Nat→Rat} (hx:Nn n x) (hd:Nn n d) {s:Rat} (h0:0≤s) (ho:Ok n g x d s) {j:Nat} (hj:j<n):gG n g (jO x d s) j=gG n g x j+s*mv n (gM n g x) d j:=by
 have hq : ∀ l:iJ,l.1<n→l.2<g.k l.1→gq g (jO x d s) l=gq g x l+s*gr g x d l:=fun l h1 h2=>by
  have:=ho.e l.1 h1 l.2 h2
  unfold gq gr jO;rw [this];grind
 have a1:aB n (fun i=>aB (g.k i) fun c=>if vS g j i c then gq g (jO x d s) (i,c) else 0)=aB n (fun i=>aB (g.k i) fun c=>if vS g j i c then gq g x (i,c) else 0)+s*aB n fun i=>aB (g.k i) (fun c=>if vS g j i c then gs g x i (i,c) else 0)*d i:=by
  rw [← zk,← dH]
  refine aS fun i hi=>?_
  rw [← N7,← zk,← dH]
  refine aS fun c hc=>?_
  have:=hq (i,c) hi hc
  have e:gs g x i (i,c)*d i=gr g x d (i,c):=by unfold gs gr;rw [if_pos rfl]
  split <;> grind
 have a2 : ∀ d'∈g.ds,dG g (jO x d s) j d' = dG g x j d' + s*aB n fun i=>dM g x j i d' * d i:=fun d' hd'=>by
  have hl:=fun l hl=>zy hg hd' (l:=l) hl
  have hl2 : ∀ l∈d'.2,l.2<g.k l.1:=fun l hl=>(hg.dN l (List.mem_flatMap.mpr ⟨d',hd',hl⟩)).2
  have hok:=ho.d d' hd'
  have hcq : ∀ l,0≤nC n (gq g x) l:=fun l=>by
   unfold nC;split
   ·next h=>exact afw hg hx h
   ·exact Rat.le_refl
  have hcr : ∀ l,0≤nC n (gr g x d) l:=fun l=>by
   unfold nC;split
   ·next h=>exact Rat.mul_nonneg (H9 (hg.nn _ h) (hx _ h) _) (hd _ h)
   ·exact Rat.le_refl
  have hq0:(0:Rat)<d'.1→s*0≤d'.1 - 0:=fun h=>by grind
  -- the ai7
  have b1:=Zh (W:=d'.1) h0 hcr j d'.2 0 0 Rat.le_refl hq0 ((QA d'.2 0 0 hl).mpr hok)
  have b2:pF d'.1 (fun l=>nC n (gq g x) l+s*nC n (gr g x d) l) (0+s*0) d'.2 j=pF d'.1 (gq g (jO x d s)) 0 d'.2 j:=by
   have z:(0:Rat)+s*0=0:=by grind
   rw [z]
   clear b1 hok hq0
   have : ∀ (t:List iJ) (Q:Rat),(∀ l∈t,l.1<n∧l.2<g.k l.1)→pF d'.1 (fun l=>nC n (gq g x) l+s*nC n (gr g x d) l) Q t j=pF d'.1 (gq g (jO x d s)) Q t j:=by
    intro t
    induction t with
    | nil=>intro Q _;rfl
    | cons l t ih =>
     intro Q h
     have h1:=h l kc
     have e:nC n (gq g x) l+s*nC n (gr g x d) l=gq g (jO x d s) l:=by
      rw [hq l h1.1 h1.2];unfold nC;rw [if_pos h1.1,if_pos h1.1]
     unfold pF
     rw [e,ih _ fun u hu=>h u (by simp [hu])]
   exact this d'.2 0 fun l h=>⟨hl l h,hl2 l h⟩
  rw [b2,Ie j _ _ hl,Qz j _ _ _ _ hl] at b1
  have z0:mJ d'.1 0 0=0:=by unfold mJ;split <;> rfl
  rw [z0] at b1
  have b3:kZ d'.1 (gq g x) (gr g x d) 0 0 0 d'.2 j=aB n fun i=>kZ d'.1 (gq g x) (gs g x i) 0 0 0 d'.2 j*d i:=by
   have c:=Zl (n:=n) (W:=d'.1) (q:=gq g x) d (gs g x) j d'.2 0 (fun _=>0) (fun _=>0)
   have z:aB n (fun i=>0*d i)=0:=dw fun i _=>by rw [Rat.zero_mul]
   rw [z] at c
   rw [← c]
   have : ∀ (t:List iJ) (Q R B:Rat),(∀ l∈t,l.1<n)→kZ d'.1 (gq g x) (gr g x d) Q R B t j=kZ d'.1 (gq g x) (fun l=>aB n fun i=>gs g x i l*d i) Q R B t j:=by
    intro t
    induction t with
    | nil=>intro Q R B _;rfl
    | cons l t ih =>
     intro Q R B h
     unfold kZ
     rw [afy (h l kc),ih _ _ _ fun u hu=>h u (by simp [hu])]
   exact this d'.2 0 0 0 hl
  -- what the holder keeps
  have b4:aF d'.2 (gq g (jO x d s))=aF d'.2 (gq g x)+s*aF d'.2 (gr g x d):=by
   rw [← wJ,← zo]
   exact dQ fun l h=>hq l (hl l h) (hl2 l h)
  have b5:aF d'.2 (gr g x d)=aB n fun i=>aF d'.2 (gs g x i)*d i:=by
   have:aB n (fun i=>aF d'.2 (gs g x i)*d i)=aB n fun i=>aF d'.2 fun l=>gs g x i l*d i:=aS fun i _=>by
    rw [Rat.mul_comm,← wJ];exact dQ fun l _=>Rat.mul_comm _ _
   rw [this,nJ d'.2 fun l i=>gs g x i l*d i]
   exact dQ fun l h=>(afy (hl l h)).symm
  have b6:0≤aF d'.2 (gr g x d):=xJ fun l h=>Rat.mul_nonneg (H9 (hg.nn _ (hl l h)) (hx _ (hl l h)) _) (hd _ (hl l h))
  have b7:=Zi d'.2 0 0 hok (fun h=>by grind)
  rw [Rat.zero_add,Rat.zero_add] at b7
  have b8:=ajb (W:=d'.1) h0 b6 b7
  have b9:aB n (fun i=>(aF d'.2 (gs g x i) - mJ d'.1 (aF d'.2 (gq g x)) (aF d'.2 (gs g x i)))*d i)=aF d'.2 (gr g x d) - mJ d'.1 (aF d'.2 (gq g x)) (aF d'.2 (gr g x d)):=by
   rw [b5,Zj,← kH];exact aS fun i _=>by grind
  unfold dG dM
  rw [b1,b3,b4,b8]
  by_cases e:zu g d' = (j:Int)
  ·simp only [if_pos e]
   have:aB n (fun i=>(aF d'.2 (gs g x i) - mJ d'.1 (aF d'.2 (gq g x)) (aF d'.2 (gs g x i))+kZ d'.1 (gq g x) (gs g x i) 0 0 0 d'.2 j)*d i)=aB n (fun i=>(aF d'.2 (gs g x i) - mJ d'.1 (aF d'.2 (gq g x)) (aF d'.2 (gs g x i)))*d i)+aB n fun i=>kZ d'.1 (gq g x) (gs g x i) 0 0 0 d'.2 j*d i:=by
    rw [← dH];exact aS fun i _=>by rw [Rat.add_mul]
   rw [this,b9];grind
  ·simp only [if_neg e]
   have:aB n (fun i=>(0+kZ d'.1 (gq g x) (gs g x i) 0 0 0 d'.2 j)*d i)=aB n fun i=>kZ d'.1 (gq g x) (gs g x i) 0 0 0 d'.2 j*d i:=aS fun i _=>by rw [Rat.zero_add]
   rw [this];grind
 have a3:aF g.ds (dG g (jO x d s) j)=aF g.ds (dG g x j)+s*aB n fun i=>aF g.ds (dM g x j i)*d i:=by
  rw [dQ a2,zo,wJ]
  congr 2
  rw [← nJ g.ds fun d' i=>dM g x j i d' * d i]
  refine aS fun i _=>?_
  rw [Rat.mul_comm,← wJ]
  exact dQ fun _ _=>Rat.mul_comm _ _
 have a4:mv n (gM n g x) d j=aB n (fun i=>aB (g.k i) (fun c=>if vS g j i c then gs g x i (i,c) else 0)*d i)+aB n fun i=>aF g.ds (dM g x j i)*d i:=by
  rw [← dH]
  exact aS fun i _=>by unfold gM;rw [Rat.add_mul]
 rw [a4]
 unfold gG
 rw [a1,a3];grind
end
def jY (a:fK):List Nat:=(vO a).map Int.toNat
/-! ### The Ib -/
def Au (cs:List C5) (r:Nat):Nat→dJ
 | 0=>[]
 | k+1=>Au cs r k ++ if (ix cs k).r=(r:Int) then [((k:Int),(ix cs k).a.q)] else []
def Zy (cs:List C5) (k:Nat):gZ:=(List.range 8).map fun r=>Au cs r k
def lpS (s:(Nat→Rat)×dJ) (x:x9):(Nat→Rat)×dJ :=
 if x.k = -1 then (s.1,s.2 ++ [((-1:Int),x.a.q)])
 else ((fun i=>if i=x.k.toNat then s.1 i - (if x.b=true then jW (s.1 x.k.toNat) x.a.q else s.1 x.k.toNat) else s.1 i),s.2 ++ [(x.k,if x.b=true then jW (s.1 x.k.toNat) x.a.q else s.1 x.k.toNat)])
def ltS (s:(Nat→Rat)×gZ) (t:ET):(Nat→Rat)×gZ:=((t.foldl lpS (s.1,[])).1,s.2 ++ [(t.foldl lpS (s.1,[])).2])
def lsA (cs:List C5) (a:fK):(Nat→Rat)×gZ:=a.foldl ltS ((fun i:Nat=>(ix cs i).a.q),[])
def vT (ms:List Nat) (f:Nat→Rat):dJ:=ms.map fun i:Nat=>((i:Int),f i)
def pJ (cs:List C5) (a:fK):List Nat×gZ:=(jY a,(lsA cs a).2 ++ [vT (jY a) (lsA cs a).1])
def kK (e:qN):iq:=⟨Zy e.c e.c.length,e.a.map (pJ e.c)⟩
/-! ### What its parts are -/
structure MO (P:Rat→Prop):Prop where
 min : ∀ a b,P a→P b→P (jW a b)
 sub : ∀ a b,P a→P b→P (a - jW a b)
 zero:P 0
def MP (P:Rat→Prop) (n:Nat) (x:x9):Prop:=(x.k = -1∨0≤x.k∧x.k<n)∧((x.k = -1∨x.b=true)→P x.a.q)
def wP (P:Rat→Prop) (n:Nat) (t:dJ):Prop:=∀ p∈t,(p.1 = -1∨0≤p.1∧p.1<n)∧P p.2
section
variable {P:Rat→Prop} {n:Nat}
theorem wP.snoc {t:dJ} (h:wP P n t) {p:Int×Rat} (h1:p.1 = -1∨0≤p.1∧p.1<n) (h2:P p.2):wP P n (t ++ [p]):=fun q hq=>by
 rcases List.mem_append.mp hq with hq|hq
 ·exact h q hq
 ·rw [List.mem_singleton] at hq;rw [hq];exact ⟨h1,h2⟩
theorem aqw (hP:MO P) {s:(Nat→Rat)×dJ} (h1 : ∀ i,P (s.1 i)) (h2:wP P n s.2) {x:x9} (hx:MP P n x):(∀ i,P ((lpS s x).1 i))∧wP P n (lpS s x).2:=by
 unfold lpS
 by_cases e:x.k = -1
 ·rw [if_pos e]
  exact ⟨h1,h2.snoc (.inl rfl) (hx.2 (.inl e))⟩
 ·rw [if_neg e]
  dsimp only
  have self:P (s.1 x.k.toNat - s.1 x.k.toNat):=by rw [show s.1 x.k.toNat - s.1 x.k.toNat=0 by grind];exact hP.zero
  refine ⟨fun i=>?_,h2.snoc hx.1 ?_⟩
  ·split
   ·next e2 =>
    rw [e2]
    split
    ·next hb=>exact hP.sub _ _ (h1 _) (hx.2 (.inr hb))
    ·exact self
   ·exact h1 i
  ·dsimp only
   split
   ·next hb=>exact hP.min _ _ (h1 _) (hx.2 (.inr hb))
   ·exact h1 _
theorem XD (hP:MO P) : ∀ (t:ET) {s:(Nat→Rat)×dJ},(∀ i,P (s.1 i))→wP P n s.2→(∀ x∈t,MP P n x)→(∀ i,P ((t.foldl lpS s).1 i))∧wP P n (t.foldl lpS s).2
 | [],_,h1,h2,_=>⟨h1,h2⟩
 | x::t,s,h1,h2,h=>by
  obtain ⟨h3,h4⟩:=aqw hP h1 h2 (h x kc)
  exact XD hP t h3 h4 fun y hy=>h y (by simp [hy])
def zA (P:Rat→Prop) (n:Nat) (l:gZ):Prop:=∀ t∈l,wP P n t
theorem zA.snoc {l:gZ} (h:zA P n l) {t:dJ} (ht:wP P n t):zA P n (l ++ [t]):=fun u hu=>by
 rcases List.mem_append.mp hu with hu|hu
 ·exact h u hu
 ·rw [List.mem_singleton] at hu;rw [hu];exact ht
theorem XE (hP:MO P) : ∀ (a:fK) {s:(Nat→Rat)×gZ},(∀ i,P (s.1 i))→zA P n s.2→(∀ t∈a,∀ x∈t,MP P n x)→(∀ i,P ((a.foldl ltS s).1 i))∧zA P n (a.foldl ltS s).2
 | [],_,h1,h2,_=>⟨h1,h2⟩
 | t::a,s,h1,h2,h=>by
  obtain ⟨h3,h4⟩:=XD hP t (s:=(s.1,[])) h1 (fun _ h=>by cases h) (h t kc)
  exact XE hP a (s:=ltS s t) h3 (h2.snoc h4) fun u hu=>h u (by simp [hu])
theorem afA (hP:MO P) {cs:List C5} {a:fK} (hc : ∀ i,P (ix cs i).a.q) (ha : ∀ t∈a,∀ x∈t,MP P n x):(∀ i,P ((lsA cs a).1 i))∧zA P n (lsA cs a).2:=XE hP a hc (fun _ h=>by cases h) ha
theorem pY {a:fK} (ha : ∀ t∈a,∀ x∈t,x.k = -1∨0≤x.k∧x.k<n) : ∀ c∈vO a,0≤c∧c<n:=fun c hc=>by
 obtain ⟨h1,h2⟩:=qC.mp hc
 obtain ⟨t,ht,hm⟩:=List.any_eq_true.mp h2
 obtain ⟨x,hx,e⟩:=List.any_eq_true.mp hm
 have e:x.k=c:=by simpa using e
 rcases ha t ht x hx with h|h
 ·exact absurd (e ▸ h) h1
 ·rwa [e] at h
theorem tY {a:fK} (ha : ∀ t∈a,∀ x∈t,x.k = -1∨0≤x.k∧x.k<n) {i:Nat} : i∈jY a↔Dw a (i:Int)=true:=by
 unfold jY
 rw [List.mem_map]
 constructor
 ·rintro ⟨c,hc,rfl⟩
  have h1:=pY ha c hc
  rw [Int.toNat_of_nonneg h1.1]
  exact (qC.mp hc).2
 ·intro h
  exact ⟨i,qC.mpr ⟨jb,h⟩,by simp⟩
theorem XF {a:fK} (ha : ∀ t∈a,∀ x∈t,x.k = -1∨0≤x.k∧x.k<n):(jY a).Nodup:=by
 unfold jY
 rw [List.nodup_iff_pairwise_ne,List.pairwise_map]
 refine List.Pairwise.imp_of_mem (fun {x y} hx hy h=>?_) (Y7 a)
 have:=pY ha x hx
 have:=pY ha y hy
 omega
theorem Zz (hP:MO P) {cs:List C5} {a:fK} (hc : ∀ i,P (ix cs i).a.q) (ha : ∀ t∈a,∀ x∈t,MP P n x):zA P n (pJ cs a).2:=by
 obtain ⟨h1,h2⟩:=afA hP hc ha
 refine h2.snoc fun p hp=>?_
 unfold vT at hp
 obtain ⟨i,hi,rfl⟩:=List.mem_map.mp hp
 have:=(tY fun t ht x hx=>(ha t ht x hx).1).mp hi
 have h3:=pY (a:=a) (fun t ht x hx=>(ha t ht x hx).1) i (qC.mpr ⟨jb,this⟩)
 exact ⟨.inr h3,h1 i⟩
theorem KI {cs:List C5} (hc : ∀ i,i<cs.length→P (ix cs i).a.q) (r:Nat) : ∀ k,k≤cs.length→∀ p∈Au cs r k,(0≤p.1∧p.1<cs.length)∧P p.2
 | 0,_,p,hp=>by cases hp
 | k+1,hk,p,hp=>by
  unfold Au at hp
  rcases List.mem_append.mp hp with hp|hp
  ·exact KI hc r k jb p hp
  ·split at hp
   ·rw [List.mem_singleton] at hp
    rw [hp]
    exact ⟨by dsimp only;omega,hc k jb⟩
   ·cases hp
end
end Go.Proofs.Ins
namespace Go.Proofs.Xe
open Go.RowKit Go.Proofs.Ins
def dY (D:Nat) (q:Rat):Prop:=∃ a:Int,q=(a:Rat)/(D:Rat)
theorem mM {D:Nat} (h:0<D):(D:Rat)≠0:=fun e=>by
 have e:(D:Rat)=((0:Nat):Rat):=e
 have:=Rat.natCast_inj.mp e
 omega
section
variable {A B D:Nat} {p q x s:Rat}
theorem dY.zero (D:Nat):dY D 0:=⟨0,by grind⟩
theorem dY.add (h:dY D p) (h' : dY D q):dY D (p+q):=by
 obtain ⟨a,rfl⟩:=h
 obtain ⟨b,rfl⟩:=h'
 exact ⟨a+b,by rw [Rat.intCast_add];grind⟩
theorem dY.neg (h:dY D p):dY D (-p):=by
 obtain ⟨a,rfl⟩:=h
 exact ⟨-a,by rw [Rat.intCast_neg];grind⟩
theorem dY.sub (h:dY D p) (h' : dY D q):dY D (p - q):=by rw [Rat.sub_eq_add_neg];exact h.add h'.neg
theorem dY.up (h:dY A p) {k:Nat} (hk:0<k):dY (A*k) p:=by
 obtain ⟨a,rfl⟩:=h
 refine ⟨a*k,?_⟩
 have h1:=mM hk
 have e2:((a*(k:Int):Int):Rat)=(a:Rat)*(k:Rat):=by rw [Rat.intCast_mul];rfl
 have e3:((A*k:Nat):Rat)=(A:Rat)*(k:Rat):=Rat.natCast_mul _ _
 rw [e2,e3]
 by_cases hD:(A:Rat)=0
 ·rw [hD];grind
 ·grind
theorem dY.dvd (h:dY A p) (hd:A ∣ B) (hB:0<B):dY B p:=by
 obtain ⟨k,rfl⟩:=hd
 exact h.up (Nat.pos_of_ne_zero fun e=>by rw [e] at hB;omega)
theorem dY.sum {α:Type} {f:α→Rat} : ∀ {l:List α},(∀ a∈l,dY D (f a))→dY D (aF l f)
 | [],_=>dY.zero D
 | a::l,h=>(h a kc).add (dY.sum fun b hb=>h b (by simp [hb]))
def nuA (A:Nat) (s:Rat):Nat:=(s*A).num.natAbs
theorem XH (hA:0<A) (hs:dY A s) (h0:0<s):s=(nuA A s:Rat)/(A:Rat)∧0<nuA A s:=by
 obtain ⟨u,rfl⟩:=hs
 have hA:=mM hA
 have e:(u:Rat)/(A:Rat)*(A:Rat)=(u:Rat):=by grind
 unfold nuA
 rw [e,Rat.num_intCast]
 have hu:0<u:=by
  have h1:(0:Rat)≤(A:Rat):=by
   have:((0:Nat):Rat)≤(A:Rat):=Rat.natCast_le_natCast.mpr (Nat.zero_le _)
   exact this
  have h2:=Rat.mul_pos h0 (show (0:Rat)<(A:Rat) by grind)
  rw [e] at h2
  exact Rat.intCast_pos.mp h2
 have e2:((u.natAbs:Nat):Rat)=(u:Rat):=by
  have:((u.natAbs:Int):Rat)=(u:Rat):=by rw [Int.natAbs_of_nonneg jb]
  exact this
 exact ⟨by rw [e2],jb⟩
theorem dY.share (hA:0<A) (hB:0<B) (hp:dY A p) (hx:dY B x) (hs:dY A s) (h0:0<s):dY (B*nuA A s) (p*(x/s)):=by
 obtain ⟨e,hn⟩:=XH hA hs h0
 obtain ⟨c,rfl⟩:=hp
 obtain ⟨z,rfl⟩:=hx
 generalize nuA A s=n at *
 refine ⟨c*z,?_⟩
 have hA:=mM hA
 have hB:=mM hB
 have hn:=mM hn
 rw [e,Rat.intCast_mul,Rat.natCast_mul]
 grind
theorem Zk.of (hD:0<D) (h:dY D q) (h1:0≤q) (h2:q≤((256 ^ uK:Nat):Rat)):Zk D 1 q:=by
 obtain ⟨a,rfl⟩:=h
 refine ⟨a,rfl,?_⟩
 have hD':=mM hD
 have h3:(0:Rat)<(D:Rat):=by
  have:((0:Nat):Rat)≤(D:Rat):=Rat.natCast_le_natCast.mpr (Nat.zero_le _)
  have h0:(0:Rat)≤(D:Rat):=this
  grind
 have e:(a:Rat)/(D:Rat)*(D:Rat)=(a:Rat):=by grind
 have h4:=Rat.mul_le_mul_of_nonneg_right h2 (Rat.le_of_lt h3)
 have h5:=Rat.mul_nonneg h1 (Rat.le_of_lt h3)
 rw [e] at h4 h5
 rw [← Rat.natCast_mul] at h4
 have h4:((a:Int):Rat)≤(((256 ^ uK*D:Nat):Int):Rat):=h4
 have h4:=Rat.intCast_le_intCast.mp h4
 have h5:=Rat.intCast_nonneg.mp h5
 rw [Nat.one_mul,Nat.mul_comm]
 omega
end
/-! ### Qj -/
def uf (A:Nat) (l:gZ) (m:Rat):Nat:=if eP l m<l.length then nuA A (aU (ix l (eP l m))) else 1
def GH (A:Nat) (l:gZ):Prop:=∀ t∈l,∀ p∈t,dY A p.2∧0≤p.2
section
variable {A B:Nat} {l:gZ} {m:Rat}
theorem zC {t:dJ} (h : ∀ p∈t,dY A p.2∧0≤p.2):dY A (aU t):=by
 induction t with
 | nil=>exact dY.zero A
 | cons p t ih=>exact (h p kc).1.add (ih fun q hq=>h q (by simp [hq]))
theorem XI {t:dJ} (h : ∀ p∈t,dY A p.2∧0≤p.2) (c:Int):dY A (jU t c):=by
 induction t with
 | nil=>exact dY.zero A
 | cons p t ih =>
  refine dY.add ?_ (ih fun q hq=>h q (by simp [hq]))
  split
  ·exact (h p kc).1
  ·exact dY.zero A
theorem GH.nn (h:GH A l):Rw l:=fun t ht p hp=>(h t ht p hp).2
theorem afB (h:GH A l) (k:Nat):dY A (zq l k):=by
 unfold zq
 have : ∀ l:gZ,GH A l→dY A (uF l):=fun l=>by
  induction l with
  | nil=>intro _;exact dY.zero A
  | cons t l ih=>intro h;exact (zC (h t kc)).add (ih fun u hu=>h u (by simp [hu]))
 exact this _ fun t ht=>h t (List.mem_of_mem_take ht)
theorem ano (h:GH A l) (c:Int):dY A (DK l c):=by
 induction l with
 | nil=>exact dY.zero A
 | cons t l ih=>exact (XI (h t kc) c).add (ih fun u hu=>h u (by simp [hu]))
theorem wQ (hm:0≤m) (hf:eP l m<l.length):0<aU (ix l (eP l m)):=by
 have:=Qr l m hm
 have:=this.2 hf
 grind
theorem qF (hA:0<A) (h:GH A l) (hm:0≤m):0<uf A l m:=by
 unfold uf
 split
 ·next hf=>exact (XH hA (zC (h _ (iE hf))) (wQ hm hf)).2
 ·omega
theorem XJ (hA:0<A) (hB:0<B) (hd:A ∣ B) (h:GH A l) (hm:dY B m):dY B (jJ l m):=by
 rw [Uz]
 exact hm.sub ((afB h _).dvd hd hB)
theorem afC (hA:0<A) (h:GH A l) (h0:0≤m) {R:Nat} (hR:0<R) {x:Rat} (hx:dY R x) (hf:eP l m<l.length) {q:Rat} (hq:dY A q):dY (R*uf A l m) (q*(x/aU (ix l (eP l m)))):=by
 unfold uf
 rw [if_pos hf]
 exact dY.share hA hR hq hx (zC (h _ (iE hf))) (wQ h0 hf)
theorem aky (hA:0<A) (hB:0<B) (hd:A ∣ B) (h:GH A l) (hm:dY B m) (h0:0≤m) (c:Int):dY (B*uf A l m) (gy l m c):=by
 have hc:=qF hA h h0
 rw [Fe]
 refine dY.add ((ano (fun t ht=>h t (List.mem_of_mem_take ht)) c).dvd (Nat.dvd_trans hd (Nat.dvd_mul_right _ _)) (Nat.mul_pos hB hc)) ?_
 split
 ·next hf=>exact afC hA h h0 hB (XJ hA hB hd h hm) hf (XI (h _ (iE hf)) c)
 ·exact dY.zero _
theorem akz (hA:0<A) (h:GH A l) (h0:0≤m) {R:Nat} (hR:0<R) {x:Rat} (hx:dY R x) (c:Int):dY (R*uf A l m) (jV l m x c):=by
 rw [Ai]
 split
 ·next hf=>exact afC hA h h0 hR hx hf (XI (h _ (iE hf)) c)
 ·exact dY.zero _
end
/-! ### ai6 -/
def abT (A:Nat) (e:iq) (x:Rat):List (List Nat×gZ)→Nat
 | []=>1
 | p::l=>uf A p.2 (lJ e x p)*abT A e x l
def GN (A:Nat) (e:iq) (x:Rat):Nat:=uf A e.rk x*abT A e x e.ps
structure ED (A:Nat) (U:Rat) (n:Nat) (e:iq):Prop where
 rk:zA (fun q=>dY A q∧0≤q∧q≤U) n e.rk
 ps : ∀ p∈e.ps,zA (fun q=>dY A q∧0≤q∧q≤U) n p.2
section
variable {A B n:Nat} {U m:Rat} {e:iq}
theorem _root_.Go.Proofs.Ins.zA.D {l:gZ} (h:zA (fun q=>dY A q∧0≤q∧q≤U) n l):GH A l:=fun t ht p hp=>⟨(h t ht p hp).2.1,(h t ht p hp).2.2.1⟩
theorem ED.nn (h:ED A U n e):J9 e:=⟨h.rk.D.nn,fun p hp=>(h.ps p hp).D.nn⟩
theorem akA (hA:0<A) (hB:0<B) (hd:A ∣ B) (h:ED A U n e) (hm:dY B m) (h0:0≤m) (c:Nat):dY (B*uf A e.rk m) (Aq e m c):=aky hA hB hd h.rk.D hm h0 _
theorem akB (hA:0<A) (h:ED A U n e) (h0:0≤m) (c:Nat):dY (uf A e.rk m) (rts e m c):=by
 have:=akz (R:=1) hA h.rk.D h0 jj (x:=1) ⟨1,by grind⟩ c
 rwa [Nat.one_mul] at this
theorem ZA (hA:0<A) (hB:0<B) (hd:A ∣ B) (h:ED A U n e) (hm:dY B m) (h0:0≤m) (p:List Nat×gZ):dY (B*uf A e.rk m) (lJ e m p):=dY.sum fun c _=>akA hA hB hd h hm h0 c
theorem akC (hA:0<A) (h:ED A U n e) (h0:0≤m) (p:List Nat×gZ):dY (uf A e.rk m) (wU e m p):=dY.sum fun c _=>akB hA h h0 c
theorem zD (A:Nat) (e:iq) (x:Rat) : ∀ {l:List (List Nat×gZ)} {p:List Nat×gZ},p∈l→uf A p.2 (lJ e x p) ∣ abT A e x l
 | q::l,p,h=>by
  rcases List.mem_cons.mp h with rfl|h
  ·exact Nat.dvd_mul_right _ _
  ·exact Nat.dvd_trans (zD A e x h) (Nat.dvd_mul_left _ _)
theorem UH (hA:0<A) (h:ED A U n e) (h0:0≤m) : ∀ {l:List (List Nat×gZ)},(∀ p∈l,p∈e.ps)→0<abT A e m l
 | [],_=>Nat.zero_lt_one
 | p::l,hl=>Nat.mul_pos (qF hA (h.ps p (hl p kc)).D (ou h.nn h0 p)) (UH hA h h0 fun q hq=>hl q (by simp [hq]))
theorem DT (hA:0<A) (h:ED A U n e) (h0:0≤m):0<GN A e m:=Nat.mul_pos (qF hA h.rk.D h0) (UH hA h h0 fun _ h=>h)
theorem akD (hA:0<A) (hB:0<B) (hd:A ∣ B) (h:ED A U n e) (hm:dY B m) (h0:0≤m) (c:Nat):dY (B*GN A e m) (sK e m c):=by
 have hp:=Nat.mul_pos hB (DT hA h h0)
 have hp1:=Nat.mul_pos hB (qF hA h.rk.D h0)
 unfold sK
 refine dY.add ?_ (dY.sum fun p hp'=>?_)
 ·split
  ·exact dY.zero _
  ·exact (akA hA hB hd h hm h0 c).dvd (Nat.mul_dvd_mul_left _ (Nat.dvd_mul_right _ _)) hp
 ·refine (aky hA hp1 (Nat.dvd_trans hd (Nat.dvd_mul_right _ _)) (h.ps p hp').D (ZA hA hB hd h hm h0 p) (ou h.nn h0 p) c).dvd ?_ hp
  rw [Nat.mul_assoc]
  exact Nat.mul_dvd_mul_left _ (Nat.mul_dvd_mul_left _ (zD A e m hp'))
theorem anp (hA:0<A) (h:ED A U n e) (h0:0≤m) (c:Nat):dY (GN A e m) (yx e m c):=by
 have hp:=DT hA h h0
 unfold yx
 refine dY.add ?_ (dY.sum fun p hp'=>?_)
 ·split
  ·exact dY.zero _
  ·exact (akB hA h h0 c).dvd (Nat.dvd_mul_right _ _) hp
 ·exact (akz hA (h.ps p hp').D (ou h.nn h0 p) (qF hA h.rk.D h0) (akC hA h h0 p) c).dvd (Nat.mul_dvd_mul_left _ (zD A e m hp')) hp
end
end Go.Proofs.Xe
namespace Go.Proofs.Ins
def vU (l:Lg):iJ:=(l.e.toNat,l.k.toNat)
def fC (g:gK):GL:=⟨fun i=>kK (ix g.e i),fun i=>(ix g.e i).c.length,fun i c=>(ix (ix g.e i).c c).h,g.d.map fun d=>(d.w.q,d.l.map vU)⟩
theorem ZB {q:Rat} (h : ¬ sg q<0):0≤q:=by
 unfold sg at h
 split at h
 ·next e=>rw [e];exact Rat.le_refl
 ·split at h
  ·omega
  ·grind
theorem ajh:MO (fun q=>0≤q) where
 min:=fun a b ha hb=>by unfold jW;split <;> assumption
 sub:=fun a b ha hb=>by unfold jW;split <;> grind
 zero:=Rat.le_refl
structure EZ (n:Nat) (i:Nat) (e:qN):Prop where
 nc:e.c.length≤24
 na:e.a.length≤12
 m:0≤e.m.q
 c : ∀ k,k<e.c.length→0≤(ix e.c k).r∧(ix e.c k).r≤7∧0≤(ix e.c k).a.q∧((ix e.c k).h = -1∨0≤(ix e.c k).h∧(ix e.c k).h<n∧(ix e.c k).h≠i)
 a : ∀ k,k<e.a.length→(ix e.a k).length≤24∧(∀ t,t<(ix e.a k).length→(ix (ix e.a k) t).length≤24)∧∀ t∈ix e.a k,∀ x∈t,MP (fun q=>0≤q) e.c.length x∧(x.k≠-1→lV e.a k x.k=false)
theorem aqx {e:qN} {n i:Nat} (h:lH e=0) (hh : ∀ k,k<e.c.length→¬ ((n:Int)≤(ix e.c k).h∨(ix e.c k).h=(i:Int))):EZ n i e:=by
 unfold lH at h
 split at h
 ·cases h
 next h0 =>
 split at h
 ·cases h
 next h1 =>
 split at h
 ·next h2=>exact absurd h h2
 next h2 =>
 have h2:mD (fun i=>oJ (ix e.c i)) e.c.length=0:=Classical.byContradiction h2
 refine ⟨jb,jb,ZB h1,fun k hk=>?_,fun k hk=>?_⟩
 ·have hc:=kG h2 k hk
  have hh:=hh k hk
  unfold oJ at hc
  split at hc
  ·cases hc
  next c1 =>
  split at hc
  ·cases hc
  next c2 =>
  split at hc
  ·cases hc
  next c3=>exact ⟨jb,jb,ZB c3,jb⟩
 ·have ha:=kG h k hk
  unfold uD at ha
  split at ha
  ·cases ha
  next hl =>
  have hl:=uY.mp (by simpa using hl)
  refine ⟨hl.1,hl.2,fun t ht x hx=>?_⟩
  obtain ⟨j,hj,rfl⟩:=List.getElem_of_mem ht
  obtain ⟨p,hp,rfl⟩:=List.getElem_of_mem hx
  have hT:=kG ha j hj
  unfold aiH at hT
  rw [dZ hj] at hT
  have hP:=kG hT p hp
  rw [dZ hp] at hP
  generalize (ix e.a k)[j][p]=x at *
  unfold rQ at hP
  split at hP
  ·cases hP
  next c1 =>
  split at hP
  ·cases hP
  next c2 =>
  split at hP
  ·cases hP
  next c3 =>
  split at hP
  ·cases hP
  next c4 =>
  refine ⟨⟨jb,fun hq=>?_⟩,fun hn=>by cases he:lV e.a k x.k with|false=>rfl|true=>exact absurd ⟨hn,he⟩ c4⟩
  have hb:x.b=true:=by
   rcases hq with hq|hq
   ·cases hb:x.b with
    | true=>rfl
    | false=>exact absurd ⟨hq,hb⟩ c2
   ·exact hq
  exact ZB fun h=>c3 ⟨hb,h⟩
structure GZ (g:gK):Prop where
 ne:g.e.length≤8
 nd:g.d.length≤16
 e : ∀ i,i<g.e.length→EZ g.e.length i (ix g.e i)
 l : ∀ d,d<g.d.length→(ix g.d d).l.length≤8∧0≤(ix g.d d).w.q∧∀ k,k<(ix g.d d).l.length→∃ e j:Nat,ix (ix g.d d).l k=⟨(e:Int),(j:Int)⟩∧e<g.e.length∧j<(ix g.e e).c.length∧sZ (iM g.d d k) (ix (ix g.d d).l k)=false∧holdL g.e (ix (ix g.d d).l k)=holdL g.e (ix (ix g.d d).l 0)
theorem UJ {g:gK} (h:qO g=0):GZ g:=by
 unfold qO at h
 split at h
 ·cases h
 next h0 =>
 split at h
 ·next h1=>exact absurd h h1
 next h1 =>
 split at h
 ·next h2=>exact absurd h h2
 next h2 =>
 have h1:mD (fun i=>lH (ix g.e i)) g.e.length=0:=Classical.byContradiction h1
 have h2:mD (fun i=>mD (mF g i) (ix g.e i).c.length) g.e.length=0:=Classical.byContradiction h2
 refine ⟨jb,jb,fun i hi=>aqx (kG h1 i hi) fun k hk hx=>?_,fun d hd=>?_⟩
 ·have:=kG (kG h2 i hi) k hk
  unfold mF at this
  rw [if_pos hx] at this
  cases this
 ·have hD:=kG h d hd
  unfold vM at hD
  split at hD
  ·cases hD
  next d0 =>
  split at hD
  ·cases hD
  next d1 =>
  refine ⟨jb,ZB d1,fun k hk=>?_⟩
  have hL:=kG hD k hk
  unfold nM at hL
  dsimp only at hL
  split at hL
  ·cases hL
  next hr =>
  split at hL
  ·cases hL
  next hm =>
  split at hL
  ·cases hL
  next hh =>
  have hm:sZ (iM g.d d k) (ix (ix g.d d).l k)=false:=by simpa using hm
  have hh:holdL g.e (ix (ix g.d d).l k)=holdL g.e (ix (ix g.d d).l 0):=Classical.byContradiction hh
  revert hm hh
  generalize hx:ix (ix g.d d).l k=x at *
  obtain ⟨e,j⟩:=x
  dsimp only at hr
  intro hm hh
  refine ⟨e.toNat,j.toNat,?_,jb,jb,hm,hh⟩
  rw [Int.toNat_of_nonneg jb,Int.toNat_of_nonneg jb]
theorem KJ {α β:Type} [Inhabited α] (f:α→List β) : ∀ l:List α,(∀ k,k<l.length→(f (ix l k)).Nodup∧∀ j,j<k→∀ x,x∈f (ix l k)→x∉f (ix l j))→(l.flatMap f).Nodup:=by
 intro l
 have key : ∀ k,k≤l.length→(∀ k,k<l.length→(f (ix l k)).Nodup∧∀ j,j<k→∀ x,x∈f (ix l k)→x∉f (ix l j))→((l.take k).flatMap f).Nodup:=by
  intro k
  induction k with
  | zero=>intro _ _;simp
  | succ k ih =>
   intro hk h
   rw [aZ jb,List.flatMap_append,List.nodup_append]
   have hs:[ix l k].flatMap f=f (ix l k):=by simp
   rw [hs]
   refine ⟨ih jb h,(h k jb).1,fun a ha b hb e=>?_⟩
   subst e
   obtain ⟨y,hy,hay⟩:=List.mem_flatMap.mp ha
   obtain ⟨j,hj,rfl⟩:=List.getElem_of_mem hy
   have hj' : j<k:=by rw [List.length_take] at hj;omega
   rw [List.getElem_take,← dZ (by omega:j<l.length)] at hay
   exact (h k jb).2 j hj' a hb hay
 intro h
 have:=key l.length jp h
 rwa [List.take_length] at this
theorem Oh {α β:Type} [Inhabited α] [Inhabited β] (f:α→β) {l:List α} {i:Nat} (h:i<l.length):ix (l.map f) i=f (ix l i):=by
 rw [dZ (by rw [List.length_map];exact h),List.getElem_map,← dZ h]
section
variable {n i:Nat} {e:qN}
theorem EZ.prt (h:EZ n i e) {k:Nat} (hk:k<e.a.length) : ∀ t∈ix e.a k,∀ x∈t,x.k = -1∨0≤x.k∧x.k<e.c.length:=fun t ht x hx=>(((h.a k hk).2.2 t ht x hx).1).1
theorem afD {α:Type} [Inhabited α] {l:List α} {k:Nat} (h:l.length≤k):ix l k=default:=by unfold ix;rw [List.getD_eq_getElem?_getD,List.getElem?_eq_none h];rfl
theorem R3.akE:(default:R3).q=0:=by
 show rq false ⟨#[]⟩ ⟨#[]⟩=0
 exact FN 0
theorem EZ.amt (h:EZ n i e) (k:Nat):0≤(ix e.c k).a.q:=by
 by_cases hk:k<e.c.length
 ·exact (h.c k hk).2.2.1
 ·rw [afD jb]
  show 0≤(default:R3).q
  rw [R3.akE];exact Rat.le_refl
theorem Ig {cs:List C5} {k:Nat} {t:dJ} : t∈Zy cs k↔∃ r,r<8∧t=Au cs r k:=by
 unfold Zy
 rw [List.mem_map]
 constructor
 ·rintro ⟨r,hr,rfl⟩;exact ⟨r,by simpa using hr,rfl⟩
 ·rintro ⟨r,hr,rfl⟩;exact ⟨r,by simpa using hr,rfl⟩
theorem QB (h:EZ n i e):J9 (kK e)∧InE e.c.length (kK e):=by
 have hA : ∀ k,k<e.a.length→zA (fun q=>0≤q) e.c.length (pJ e.c (ix e.a k)).2:=fun k hk=>Zz ajh h.amt fun t ht x hx=>((h.a k hk).2.2 t ht x hx).1
 refine ⟨⟨fun t ht p hp=>?_,fun p hp t ht q hq=>?_⟩,⟨fun t ht p hp=>?_,fun p hp t ht q hq=>?_,?_,fun i hi=>?_⟩⟩
 ·obtain ⟨r,-,rfl⟩:=Ig.mp ht
  exact (KI (P:=fun q=>0≤q) (fun i _=>h.amt i) r _ jp p hp).2
 ·obtain ⟨a,ha,rfl⟩:=List.mem_map.mp hp
  obtain ⟨k,hk,rfl⟩:=List.getElem_of_mem ha
  rw [← dZ hk] at ht
  exact (hA k hk t ht q hq).2
 ·obtain ⟨r,-,rfl⟩:=Ig.mp ht
  exact (KI (P:=fun q=>0≤q) (fun i _=>h.amt i) r _ jp p hp).1
 ·obtain ⟨a,ha,rfl⟩:=List.mem_map.mp hp
  obtain ⟨k,hk,rfl⟩:=List.getElem_of_mem ha
  rw [← dZ hk] at ht
  exact (hA k hk t ht q hq).1
 ·show ((e.a.map (pJ e.c)).flatMap (·.1)).Nodup
  rw [List.flatMap_map]
  refine KJ (fun a=>(pJ e.c a).1) e.a fun k hk=>⟨XF (h.prt hk),fun j hj x hx hx2=>?_⟩
  have h1:=(tY (h.prt hk)).mp hx
  have h2:=(tY (h.prt (by omega:j<e.a.length))).mp hx2
  obtain ⟨t,ht,hm⟩:=List.any_eq_true.mp h1
  obtain ⟨y,hy,ey⟩:=List.any_eq_true.mp hm
  have ey:y.k=(x:Int):=by simpa using ey
  have:=((h.a k hk).2.2 t ht y hy).2 jb
  rw [ey] at this
  unfold lV at this
  rw [List.any_eq_false] at this
  refine this (ix e.a j) ?_ h2
  rw [← Qa (l:=e.a) hj]
  exact jQ (by rw [List.length_take];omega)
 ·obtain ⟨p,hp,hi⟩:=List.mem_flatMap.mp hi
  obtain ⟨a,ha,rfl⟩:=List.mem_map.mp hp
  obtain ⟨k,hk,rfl⟩:=List.getElem_of_mem ha
  rw [← dZ hk] at hi
  have h1:=(tY (h.prt hk)).mp hi
  have:=pY (h.prt hk) i (qC.mpr ⟨jb,h1⟩)
  omega
end
theorem QC {g:gK} (h:GZ g):Vo g.e.length (fC g):=by
 refine ⟨fun i hi=>(QB (h.e i hi)).1,fun i hi=>(QB (h.e i hi)).2,fun i c hi hc=>?_,fun l hl=>?_,?_,fun d hd=>?_⟩
 ·have:=((h.e i hi).c c hc).2.2.2
  show (ix (ix g.e i).c c).h = -1∨0≤(ix (ix g.e i).c c).h∧(ix (ix g.e i).c c).h<(g.e.length:Int)
  omega
 ·obtain ⟨d,hd,hl⟩:=List.mem_flatMap.mp hl
  obtain ⟨d',hd',rfl⟩:=List.mem_map.mp hd
  obtain ⟨j,hj,rfl⟩:=List.getElem_of_mem hd'
  obtain ⟨x,hx,rfl⟩:=List.mem_map.mp hl
  rw [← dZ hj] at hx
  obtain ⟨k,hk,rfl⟩:=List.getElem_of_mem hx
  obtain ⟨a,b,e1,h1,h2,-⟩:=(h.l j hj).2.2 k hk
  rw [← dZ hk,e1]
  exact ⟨h1,h2⟩
 ·show ((g.d.map fun d=>(d.w.q,d.l.map vU)).flatMap (·.2)).Nodup
  rw [List.flatMap_map]
  have key : ∀ d,d<g.d.length→∀ k,k<(ix g.d d).l.length→∀ y∈iM g.d d k,(0≤y.e∧0≤y.k)→vU y≠vU (ix (ix g.d d).l k):=fun d hd k hk y hy hn e=>by
   obtain ⟨a,b,e1,h1,h2,h3,-⟩:=(h.l d hd).2.2 k hk
   unfold sZ at h3
   rw [List.any_eq_false] at h3
   refine h3 y hy ?_
   rw [e1] at e ⊢
   unfold vU at e
   simp at e ⊢
   omega
  have nn : ∀ d,d<g.d.length→∀ y∈(ix g.d d).l,0≤y.e∧0≤y.k:=fun d hd y hy=>by
   obtain ⟨k,hk,rfl⟩:=List.getElem_of_mem hy
   obtain ⟨a,b,e1,-⟩:=(h.l d hd).2.2 k hk
   rw [← dZ hk,e1]
   exact ⟨Int.natCast_nonneg a,Int.natCast_nonneg b⟩
  refine KJ (fun d:oV=>d.l.map vU) g.d fun d hd=>⟨?_,fun j hj x hx hx2=>?_⟩
  ·have:(List.range (ix g.d d).l.length).Pairwise (· < ·):=List.pairwise_lt_range
   rw [List.nodup_iff_pairwise_ne,List.pairwise_map,List.pairwise_iff_getElem]
   intro a b ha hb hab
   have:=key d hd b hb (ix (ix g.d d).l a) (List.mem_append_right _ ?_) ?_
   ·rw [dZ ha,dZ hb] at this;exact this
   ·rw [← Qa (l:=(ix g.d d).l) hab]
    exact jQ (by rw [List.length_take];omega)
   ·exact nn d hd _ (jQ ha)
  ·obtain ⟨y,hy,rfl⟩:=List.mem_map.mp hx
   obtain ⟨z,hz,e⟩:=List.mem_map.mp hx2
   obtain ⟨k,hk,rfl⟩:=List.getElem_of_mem hy
   rw [← dZ hk] at e
   refine key d hd k hk z (List.mem_append_left _ (List.mem_flatMap.mpr ⟨ix g.d j,?_,hz⟩)) (nn j jb z hz) e
   rw [← Qa (l:=g.d) hj]
   exact jQ (by rw [List.length_take];omega)
 ·obtain ⟨d',hd',rfl⟩:=List.mem_map.mp hd
  obtain ⟨j,hj,rfl⟩:=List.getElem_of_mem hd'
  rw [← dZ hj]
  exact (h.l j hj).2.1
end Go.Proofs.Ins
