/- dZ: lay (1): its data. -/
import Derived.Test.YtjonjhcaniinaaaGreatDoorZ29
set_option linter.unusedSimpArgs false
set_option linter.unusedVariables false
namespace Go.Proofs.Ins
def jE (a:eU):List Nat:=(tu a).map Int.toNat
/-! ### The Fa -/
def yQ (cs:List C5) (r:Nat):Nat→dA
 | 0=>[]
 | k+1=>yQ cs r k ++ if (ix cs k).r=(r:Int) then [((k:Int),(ix cs k).a.q)] else []
def Xl (cs:List C5) (k:Nat):iH:=(List.range 8).map fun r=>yQ cs r k
def ZH (s:(Nat→Rat)×dA) (x:vZ):(Nat→Rat)×dA :=
 if x.k = -1 then (s.1,s.2 ++ [((-1:Int),x.a.q)])
 else ((fun i=>if i=x.k.toNat then s.1 i - (if x.b=true then mF (s.1 x.k.toNat) x.a.q else s.1 x.k.toNat) else s.1 i),s.2 ++ [(x.k,if x.b=true then mF (s.1 x.k.toNat) x.a.q else s.1 x.k.toNat)])
def ltS (s:(Nat→Rat)×iH) (t:Dp):(Nat→Rat)×iH:=((t.foldl ZH (s.1,[])).1,s.2 ++ [(t.foldl ZH (s.1,[])).2])
def lsA (cs:List C5) (a:eU):(Nat→Rat)×iH:=a.foldl ltS ((fun i:Nat=>(ix cs i).a.q),[])
def tH (ms:List Nat) (f:Nat→Rat):dA:=ms.map fun i:Nat=>((i:Int),f i)
def nK (cs:List C5) (a:eU):List Nat×iH:=(jE a,(lsA cs a).2 ++ [tH (jE a) (lsA cs a).1])
def mM (e:oU):iG:=⟨Xl e.c e.c.length,e.a.map (nK e.c)⟩
/-! ### What its parts are -/
structure JL (P:Rat→Prop):Prop where
 min : ∀ a b,P a→P b→P (mF a b)
 sub : ∀ a b,P a→P b→P (a - mF a b)
 zero:P 0
def JM (P:Rat→Prop) (n:Nat) (x:vZ):Prop:=(x.k = -1∨0≤x.k∧x.k<n)∧((x.k = -1∨x.b=true)→P x.a.q)
def uM (P:Rat→Prop) (n:Nat) (t:dA):Prop:=∀ p∈t,(p.1 = -1∨0≤p.1∧p.1<n)∧P p.2
section
variable {P:Rat→Prop} {n:Nat}
theorem uM.snoc {t:dA} (h:uM P n t) {p:Int×Rat} (h1:p.1 = -1∨0≤p.1∧p.1<n) (h2:P p.2):uM P n (t ++ [p]):=fun q hq=>by
 rcases List.mem_append.mp hq with hq|hq
 ·exact h q hq
 ·rw [List.mem_singleton] at hq;rw [hq];exact ⟨h1,h2⟩
theorem anh (hP:JL P) {s:(Nat→Rat)×dA} (h1 : ∀ i,P (s.1 i)) (h2:uM P n s.2) {x:vZ} (hx:JM P n x):(∀ i,P ((ZH s x).1 i))∧uM P n (ZH s x).2:=by
 unfold ZH
 by_cases e:x.k = -1
 ·rw [if_pos e]
  exact ⟨h1,h2.snoc (.inl rfl) (hx.2 (.inl e))⟩
 ·rw [if_neg e]
  dsimp only
  have self:P (s.1 x.k.toNat - s.1 x.k.toNat):=by rw [show s.1 x.k.toNat - s.1 x.k.toNat=0 by grind];exact hP.zero
  refine ⟨fun i=>?_,h2.snoc hx.1 ?_⟩
  ·split
   ·next e2 =>
    rw [e2]
    split
    ·next hb=>exact hP.sub _ _ (h1 _) (hx.2 (.inr hb))
    ·exact self
   ·exact h1 i
  ·dsimp only
   split
   ·next hb=>exact hP.min _ _ (h1 _) (hx.2 (.inr hb))
   ·exact h1 _
theorem U3 (hP:JL P) : ∀ (t:Dp) {s:(Nat→Rat)×dA},(∀ i,P (s.1 i))→uM P n s.2→(∀ x∈t,JM P n x)→(∀ i,P ((t.foldl ZH s).1 i))∧uM P n (t.foldl ZH s).2
 | [],_,h1,h2,_=>⟨h1,h2⟩
 | x::t,s,h1,h2,h=>by
  obtain ⟨h3,h4⟩:=anh hP h1 h2 (h x (by simp))
  exact U3 hP t h3 h4 fun y hy=>h y (by simp [hy])
def xU (P:Rat→Prop) (n:Nat) (l:iH):Prop:=∀ t∈l,uM P n t
theorem xU.snoc {l:iH} (h:xU P n l) {t:dA} (ht:uM P n t):xU P n (l ++ [t]):=fun u hu=>by
 rcases List.mem_append.mp hu with hu|hu
 ·exact h u hu
 ·rw [List.mem_singleton] at hu;rw [hu];exact ht
theorem U4 (hP:JL P) : ∀ (a:eU) {s:(Nat→Rat)×iH},(∀ i,P (s.1 i))→xU P n s.2→(∀ t∈a,∀ x∈t,JM P n x)→(∀ i,P ((a.foldl ltS s).1 i))∧xU P n (a.foldl ltS s).2
 | [],_,h1,h2,_=>⟨h1,h2⟩
 | t::a,s,h1,h2,h=>by
  obtain ⟨h3,h4⟩:=U3 hP t (s:=(s.1,[])) h1 (fun _ h=>by cases h) (h t (by simp))
  exact U4 hP a (s:=ltS s t) h3 (h2.snoc h4) fun u hu=>h u (by simp [hu])
theorem adi (hP:JL P) {cs:List C5} {a:eU} (hc : ∀ i,P (ix cs i).a.q) (ha : ∀ t∈a,∀ x∈t,JM P n x):(∀ i,P ((lsA cs a).1 i))∧xU P n (lsA cs a).2:=U4 hP a hc (fun _ h=>by cases h) ha
theorem nT {a:eU} (ha : ∀ t∈a,∀ x∈t,x.k = -1∨0≤x.k∧x.k<n) : ∀ c∈tu a,0≤c∧c<n:=fun c hc=>by
 obtain ⟨h1,h2⟩:=oh.mp hc
 obtain ⟨t,ht,hm⟩:=List.any_eq_true.mp h2
 obtain ⟨x,hx,e⟩:=List.any_eq_true.mp hm
 have e:x.k=c:=by simpa using e
 rcases ha t ht x hx with h|h
 ·exact absurd (e ▸ h) h1
 ·rwa [e] at h
theorem qU {a:eU} (ha : ∀ t∈a,∀ x∈t,x.k = -1∨0≤x.k∧x.k<n) {i:Nat} : i∈jE a↔Bd a (i:Int)=true:=by
 unfold jE
 rw [List.mem_map]
 constructor
 ·rintro ⟨c,hc,rfl⟩
  have h1:=nT ha c hc
  rw [Int.toNat_of_nonneg h1.1]
  exact (oh.mp hc).2
 ·intro h
  exact ⟨i,oh.mpr ⟨by omega,h⟩,by simp⟩
theorem U5 {a:eU} (ha : ∀ t∈a,∀ x∈t,x.k = -1∨0≤x.k∧x.k<n):(jE a).Nodup:=by
 unfold jE
 rw [List.nodup_iff_pairwise_ne,List.pairwise_map]
 refine List.Pairwise.imp_of_mem (fun {x y} hx hy h=>?_) (WT a)
 have:=nT ha x hx
 have:=nT ha y hy
 omega
theorem Xm (hP:JL P) {cs:List C5} {a:eU} (hc : ∀ i,P (ix cs i).a.q) (ha : ∀ t∈a,∀ x∈t,JM P n x):xU P n (nK cs a).2:=by
 obtain ⟨h1,h2⟩:=adi hP hc ha
 refine h2.snoc fun p hp=>?_
 unfold tH at hp
 obtain ⟨i,hi,rfl⟩:=List.mem_map.mp hp
 have:=(qU fun t ht x hx=>(ha t ht x hx).1).mp hi
 have h3:=nT (a:=a) (fun t ht x hx=>(ha t ht x hx).1) i (oh.mpr ⟨by omega,this⟩)
 exact ⟨.inr h3,h1 i⟩
theorem IU {cs:List C5} (hc : ∀ i,i<cs.length→P (ix cs i).a.q) (r:Nat) : ∀ k,k≤cs.length→∀ p∈yQ cs r k,(0≤p.1∧p.1<cs.length)∧P p.2
 | 0,_,p,hp=>by cases hp
 | k+1,hk,p,hp=>by
  unfold yQ at hp
  rcases List.mem_append.mp hp with hp|hp
  ·exact IU hc r k (by omega) p hp
  ·split at hp
   ·rw [List.mem_singleton] at hp
    rw [hp]
    exact ⟨by dsimp only;omega,hc k (by omega)⟩
   ·cases hp
end
end Go.Proofs.Ins
namespace Go.Proofs.Xe
open Go.RowKit Go.Proofs.Ins
def jm (D:Nat) (q:Rat):Prop:=∃ a:Int,q=(a:Rat)/(D:Rat)
theorem yI {D:Nat} (h:0<D):(D:Rat)≠0:=fun e=>by
 have e:(D:Rat)=((0:Nat):Rat):=e
 have:=Rat.natCast_inj.mp e
 omega
section
variable {A B D:Nat} {p q x s:Rat}
theorem jm.zero (D:Nat):jm D 0:=⟨0,by grind⟩
theorem jm.add (h:jm D p) (h' : jm D q):jm D (p+q):=by
 obtain ⟨a,rfl⟩:=h
 obtain ⟨b,rfl⟩:=h'
 exact ⟨a+b,by rw [Rat.intCast_add];grind⟩
theorem jm.neg (h:jm D p):jm D (-p):=by
 obtain ⟨a,rfl⟩:=h
 exact ⟨-a,by rw [Rat.intCast_neg];grind⟩
theorem jm.sub (h:jm D p) (h' : jm D q):jm D (p - q):=by rw [Rat.sub_eq_add_neg];exact h.add h'.neg
theorem jm.up (h:jm A p) {k:Nat} (hk:0<k):jm (A*k) p:=by
 obtain ⟨a,rfl⟩:=h
 refine ⟨a*k,?_⟩
 have h1:=yI hk
 have e2:((a*(k:Int):Int):Rat)=(a:Rat)*(k:Rat):=by rw [Rat.intCast_mul];rfl
 have e3:((A*k:Nat):Rat)=(A:Rat)*(k:Rat):=Rat.natCast_mul _ _
 rw [e2,e3]
 by_cases hD:(A:Rat)=0
 ·rw [hD];grind
 ·grind
theorem jm.dvd (h:jm A p) (hd:A ∣ B) (hB:0<B):jm B p:=by
 obtain ⟨k,rfl⟩:=hd
 exact h.up (Nat.pos_of_ne_zero fun e=>by rw [e] at hB;omega)
theorem jm.sum {α:Type} {f:α→Rat} : ∀ {l:List α},(∀ a∈l,jm D (f a))→jm D (aO l f)
 | [],_=>jm.zero D
 | a::l,h=>(h a (by simp)).add (jm.sum fun b hb=>h b (by simp [hb]))
def nuA (A:Nat) (s:Rat):Nat:=(s*A).num.natAbs
theorem U6 (hA:0<A) (hs:jm A s) (h0:0<s):s=(nuA A s:Rat)/(A:Rat)∧0<nuA A s:=by
 obtain ⟨u,rfl⟩:=hs
 have hA:=yI hA
 have e:(u:Rat)/(A:Rat)*(A:Rat)=(u:Rat):=by grind
 unfold nuA
 rw [e,Rat.num_intCast]
 have hu:0<u:=by
  have h1:(0:Rat)≤(A:Rat):=by
   have:((0:Nat):Rat)≤(A:Rat):=Rat.natCast_le_natCast.mpr (Nat.zero_le _)
   exact this
  have h2:=Rat.mul_pos h0 (show (0:Rat)<(A:Rat) by grind)
  rw [e] at h2
  exact Rat.intCast_pos.mp h2
 have e2:((u.natAbs:Nat):Rat)=(u:Rat):=by
  have:((u.natAbs:Int):Rat)=(u:Rat):=by rw [Int.natAbs_of_nonneg (by omega)]
  exact this
 exact ⟨by rw [e2],by omega⟩
theorem jm.share (hA:0<A) (hB:0<B) (hp:jm A p) (hx:jm B x) (hs:jm A s) (h0:0<s):jm (B*nuA A s) (p*(x/s)):=by
 obtain ⟨e,hn⟩:=U6 hA hs h0
 obtain ⟨c,rfl⟩:=hp
 obtain ⟨z,rfl⟩:=hx
 generalize nuA A s=n at *
 refine ⟨c*z,?_⟩
 have hA:=yI hA
 have hB:=yI hB
 have hn:=yI hn
 rw [e,Rat.intCast_mul,Rat.natCast_mul]
 grind
theorem Zk.of (hD:0<D) (h:jm D q) (h1:0≤q) (h2:q≤((256 ^ uK:Nat):Rat)):Zk D 1 q:=by
 obtain ⟨a,rfl⟩:=h
 refine ⟨a,rfl,?_⟩
 have hD':=yI hD
 have h3:(0:Rat)<(D:Rat):=by
  have:((0:Nat):Rat)≤(D:Rat):=Rat.natCast_le_natCast.mpr (Nat.zero_le _)
  have h0:(0:Rat)≤(D:Rat):=this
  grind
 have e:(a:Rat)/(D:Rat)*(D:Rat)=(a:Rat):=by grind
 have h4:=Rat.mul_le_mul_of_nonneg_right h2 (Rat.le_of_lt h3)
 have h5:=Rat.mul_nonneg h1 (Rat.le_of_lt h3)
 rw [e] at h4 h5
 rw [← Rat.natCast_mul] at h4
 have h4:((a:Int):Rat)≤(((256 ^ uK*D:Nat):Int):Rat):=h4
 have h4:=Rat.intCast_le_intCast.mp h4
 have h5:=Rat.intCast_nonneg.mp h5
 rw [Nat.one_mul,Nat.mul_comm]
 omega
end
/-! ### NS -/
def yR (A:Nat) (l:iH) (m:Rat):Nat:=if fF l m<l.length then nuA A (aU (ix l (fF l m))) else 1
def JO (A:Nat) (l:iH):Prop:=∀ t∈l,∀ p∈t,jm A p.2∧0≤p.2
section
variable {A B:Nat} {l:iH} {m:Rat}
theorem zK {t:dA} (h : ∀ p∈t,jm A p.2∧0≤p.2):jm A (aU t):=by
 induction t with
 | nil=>exact jm.zero A
 | cons p t ih=>exact (h p (by simp)).1.add (ih fun q hq=>h q (by simp [hq]))
theorem adk {t:dA} (h : ∀ p∈t,jm A p.2∧0≤p.2) (c:Int):jm A (jR t c):=by
 induction t with
 | nil=>exact jm.zero A
 | cons p t ih =>
  refine jm.add ?_ (ih fun q hq=>h q (by simp [hq]))
  split
  ·exact (h p (by simp)).1
  ·exact jm.zero A
theorem JO.nn (h:JO A l):UO l:=fun t ht p hp=>(h t ht p hp).2
theorem adl (h:JO A l) (k:Nat):jm A (xQ l k):=by
 unfold xQ
 have : ∀ l:iH,JO A l→jm A (rE l):=fun l=>by
  induction l with
  | nil=>intro _;exact jm.zero A
  | cons t l ih=>intro h;exact (zK (h t (by simp))).add (ih fun u hu=>h u (by simp [hu]))
 exact this _ fun t ht=>h t (List.mem_of_mem_take ht)
theorem akv (h:JO A l) (c:Int):jm A (Bz l c):=by
 induction l with
 | nil=>exact jm.zero A
 | cons t l ih=>exact (adk (h t (by simp)) c).add (ih fun u hu=>h u (by simp [hu]))
theorem xW (hm:0≤m) (hf:fF l m<l.length):0<aU (ix l (fF l m)):=by
 have:=NW l m hm
 have:=this.2 hf
 grind
theorem xX (hA:0<A) (h:JO A l) (hm:0≤m):0<yR A l m:=by
 unfold yR
 split
 ·next hf=>exact (U6 hA (zK (h _ (je hf))) (xW hm hf)).2
 ·omega
theorem U7 (hA:0<A) (hB:0<B) (hd:A ∣ B) (h:JO A l) (hm:jm B m):jm B (jk l m):=by
 rw [QE]
 exact hm.sub ((adl h _).dvd hd hB)
theorem ahM (hA:0<A) (h:JO A l) (h0:0≤m) {R:Nat} (hR:0<R) {x:Rat} (hx:jm R x) (hf:fF l m<l.length) {q:Rat} (hq:jm A q):jm (R*yR A l m) (q*(x/aU (ix l (fF l m)))):=by
 unfold yR
 rw [if_pos hf]
 exact jm.share hA hR hq hx (zK (h _ (je hf))) (xW h0 hf)
theorem ahN (hA:0<A) (hB:0<B) (hd:A ∣ B) (h:JO A l) (hm:jm B m) (h0:0≤m) (c:Int):jm (B*yR A l m) (gB l m c):=by
 have hc:=xX hA h h0
 rw [Dx]
 refine jm.add ((akv (fun t ht=>h t (List.mem_of_mem_take ht)) c).dvd (Nat.dvd_trans hd (Nat.dvd_mul_right _ _)) (Nat.mul_pos hB hc)) ?_
 split
 ·next hf=>exact ahM hA h h0 hB (U7 hA hB hd h hm) hf (adk (h _ (je hf)) c)
 ·exact jm.zero _
end
/-! ### agu -/
def ZI (A:Nat) (e:iG) (x:Rat):List (List Nat×iH)→Nat
 | []=>1
 | p::l=>yR A p.2 (sF e x p)*ZI A e x l
def QL (A:Nat) (e:iG) (x:Rat):Nat:=yR A e.rk x*ZI A e x e.ps
structure ED (A:Nat) (U:Rat) (n:Nat) (e:iG):Prop where
 rk:xU (fun q=>jm A q∧0≤q∧q≤U) n e.rk
 ps : ∀ p∈e.ps,xU (fun q=>jm A q∧0≤q∧q≤U) n p.2
section
variable {A B n:Nat} {U m:Rat} {e:iG}
theorem _root_.Go.Proofs.Ins.xU.D {l:iH} (h:xU (fun q=>jm A q∧0≤q∧q≤U) n l):JO A l:=fun t ht p hp=>⟨(h t ht p hp).2.1,(h t ht p hp).2.2.1⟩
theorem ED.nn (h:ED A U n e):UU e:=⟨h.rk.D.nn,fun p hp=>(h.ps p hp).D.nn⟩
theorem ahO (hA:0<A) (hB:0<B) (hd:A ∣ B) (h:ED A U n e) (hm:jm B m) (h0:0≤m) (c:Nat):jm (B*yR A e.rk m) (Eh e m c):=ahN hA hB hd h.rk.D hm h0 _
theorem ahP (hA:0<A) (hB:0<B) (hd:A ∣ B) (h:ED A U n e) (hm:jm B m) (h0:0≤m) (p:List Nat×iH):jm (B*yR A e.rk m) (sF e m p):=jm.sum fun c _=>ahO hA hB hd h hm h0 c
theorem IV (A:Nat) (e:iG) (x:Rat) : ∀ {l:List (List Nat×iH)} {p:List Nat×iH},p∈l→yR A p.2 (sF e x p) ∣ ZI A e x l
 | q::l,p,h=>by
  rcases List.mem_cons.mp h with rfl|h
  ·exact Nat.dvd_mul_right _ _
  ·exact Nat.dvd_trans (IV A e x h) (Nat.dvd_mul_left _ _)
theorem QM (hA:0<A) (h:ED A U n e) (h0:0≤m) : ∀ {l:List (List Nat×iH)},(∀ p∈l,p∈e.ps)→0<ZI A e m l
 | [],_=>Nat.zero_lt_one
 | p::l,hl=>Nat.mul_pos (xX hA (h.ps p (hl p (by simp))).D (vN h.nn h0 p)) (QM hA h h0 fun q hq=>hl q (by simp [hq]))
theorem QN (hA:0<A) (h:ED A U n e) (h0:0≤m):0<QL A e m:=Nat.mul_pos (xX hA h.rk.D h0) (QM hA h h0 fun _ h=>h)
theorem ani (hA:0<A) (hB:0<B) (hd:A ∣ B) (h:ED A U n e) (hm:jm B m) (h0:0≤m) (c:Nat):jm (B*QL A e m) (wG e m c):=by
 have hp:=Nat.mul_pos hB (QN hA h h0)
 have hp1:=Nat.mul_pos hB (xX hA h.rk.D h0)
 unfold wG
 refine jm.add ?_ (jm.sum fun p hp'=>?_)
 ·split
  ·exact jm.zero _
  ·exact (ahO hA hB hd h hm h0 c).dvd (Nat.mul_dvd_mul_left _ (Nat.dvd_mul_right _ _)) hp
 ·refine (ahN hA hp1 (Nat.dvd_trans hd (Nat.dvd_mul_right _ _)) (h.ps p hp').D (ahP hA hB hd h hm h0 p) (vN h.nn h0 p) c).dvd ?_ hp
  rw [Nat.mul_assoc]
  exact Nat.mul_dvd_mul_left _ (Nat.mul_dvd_mul_left _ (IV A e m hp'))
end
end Go.Proofs.Xe
namespace Go.Proofs.Ins
def yZ (l:Lg):kH:=(l.e.toNat,l.k.toNat)
def mV (g:iy):GL:=⟨fun i=>mM (ix g.e i),fun i=>(ix g.e i).c.length,fun i c=>(ix (ix g.e i).c c).h,g.d.map fun d=>(d.w.q,d.l.map yZ)⟩
theorem Xn {q:Rat} (h : ¬ sg q<0):0≤q:=by
 unfold sg at h
 split at h
 ·next e=>rw [e];exact Rat.le_refl
 ·split at h
  ·omega
  ·grind
theorem agJ:JL (fun q=>0≤q) where
 min:=fun a b ha hb=>by unfold mF;split <;> assumption
 sub:=fun a b ha hb=>by unfold mF;split <;> grind
 zero:=Rat.le_refl
structure EZ (n:Nat) (i:Nat) (e:oU):Prop where
 nc:e.c.length≤24
 na:e.a.length≤12
 m:0≤e.m.q
 c : ∀ k,k<e.c.length→0≤(ix e.c k).r∧(ix e.c k).r≤7∧0≤(ix e.c k).a.q∧((ix e.c k).h = -1∨0≤(ix e.c k).h∧(ix e.c k).h<n∧(ix e.c k).h≠i)
 a : ∀ k,k<e.a.length→(ix e.a k).length≤24∧(∀ t,t<(ix e.a k).length→(ix (ix e.a k) t).length≤24)∧∀ t∈ix e.a k,∀ x∈t,JM (fun q=>0≤q) e.c.length x∧(x.k≠-1→kD e.a k x.k=false)
theorem anj {e:oU} {n i:Nat} (h:jU e=0) (hh : ∀ k,k<e.c.length→¬ ((n:Int)≤(ix e.c k).h∨(ix e.c k).h=(i:Int))):EZ n i e:=by
 unfold jU at h
 split at h
 ·cases h
 next h0 =>
 split at h
 ·cases h
 next h1 =>
 split at h
 ·next h2=>exact absurd h h2
 next h2 =>
 have h2:kM (fun i=>mO (ix e.c i)) e.c.length=0:=Classical.byContradiction h2
 refine ⟨by omega,by omega,Xn h1,fun k hk=>?_,fun k hk=>?_⟩
 ·have hc:=jI h2 k hk
  have hh:=hh k hk
  unfold mO at hc
  split at hc
  ·cases hc
  next c1 =>
  split at hc
  ·cases hc
  next c2 =>
  split at hc
  ·cases hc
  next c3=>exact ⟨by omega,by omega,Xn c3,by omega⟩
 ·have ha:=jI h k hk
  unfold ru at ha
  split at ha
  ·cases ha
  next hl =>
  have hl:=su.mp (by simpa using hl)
  refine ⟨hl.1,hl.2,fun t ht x hx=>?_⟩
  obtain ⟨j,hj,rfl⟩:=List.getElem_of_mem ht
  obtain ⟨p,hp,rfl⟩:=List.getElem_of_mem hx
  have hT:=jI ha j hj
  unfold af2 at hT
  rw [dV hj] at hT
  have hP:=jI hT p hp
  rw [dV hp] at hP
  generalize (ix e.a k)[j][p]=x at *
  unfold pY at hP
  split at hP
  ·cases hP
  next c1 =>
  split at hP
  ·cases hP
  next c2 =>
  split at hP
  ·cases hP
  next c3 =>
  split at hP
  ·cases hP
  next c4 =>
  refine ⟨⟨by omega,fun hq=>?_⟩,fun hn=>by cases he:kD e.a k x.k with|false=>rfl|true=>exact absurd ⟨hn,he⟩ c4⟩
  have hb:x.b=true:=by
   rcases hq with hq|hq
   ·cases hb:x.b with
    | true=>rfl
    | false=>exact absurd ⟨hq,hb⟩ c2
   ·exact hq
  exact Xn fun h=>c3 ⟨hb,h⟩
structure GZ (g:iy):Prop where
 ne:g.e.length≤8
 nd:g.d.length≤16
 e : ∀ i,i<g.e.length→EZ g.e.length i (ix g.e i)
 l : ∀ d,d<g.d.length→(ix g.d d).l.length≤8∧0≤(ix g.d d).w.q∧∀ k,k<(ix g.d d).l.length→∃ e j:Nat,ix (ix g.d d).l k=⟨(e:Int),(j:Int)⟩∧e<g.e.length∧j<(ix g.e e).c.length∧qL (gZ g.d d k) (ix (ix g.d d).l k)=false∧holdL g.e (ix (ix g.d d).l k)=holdL g.e (ix (ix g.d d).l 0)
theorem QO {g:iy} (h:oK g=0):GZ g:=by
 unfold oK at h
 split at h
 ·cases h
 next h0 =>
 split at h
 ·next h1=>exact absurd h h1
 next h1 =>
 split at h
 ·next h2=>exact absurd h h2
 next h2 =>
 have h1:kM (fun i=>jU (ix g.e i)) g.e.length=0:=Classical.byContradiction h1
 have h2:kM (fun i=>kM (kN g i) (ix g.e i).c.length) g.e.length=0:=Classical.byContradiction h2
 refine ⟨by omega,by omega,fun i hi=>anj (jI h1 i hi) fun k hk hx=>?_,fun d hd=>?_⟩
 ·have:=jI (jI h2 i hi) k hk
  unfold kN at this
  rw [if_pos hx] at this
  cases this
 ·have hD:=jI h d hd
  unfold sZ at hD
  split at hD
  ·cases hD
  next d0 =>
  split at hD
  ·cases hD
  next d1 =>
  refine ⟨by omega,Xn d1,fun k hk=>?_⟩
  have hL:=jI hD k hk
  unfold lN at hL
  dsimp only at hL
  split at hL
  ·cases hL
  next hr =>
  split at hL
  ·cases hL
  next hm =>
  split at hL
  ·cases hL
  next hh =>
  have hm:qL (gZ g.d d k) (ix (ix g.d d).l k)=false:=by simpa using hm
  have hh:holdL g.e (ix (ix g.d d).l k)=holdL g.e (ix (ix g.d d).l 0):=Classical.byContradiction hh
  revert hm hh
  generalize hx:ix (ix g.d d).l k=x at *
  obtain ⟨e,j⟩:=x
  dsimp only at hr
  intro hm hh
  refine ⟨e.toNat,j.toNat,?_,by omega,by omega,hm,hh⟩
  rw [Int.toNat_of_nonneg (by omega),Int.toNat_of_nonneg (by omega)]
theorem IW {α β:Type} [Inhabited α] (f:α→List β) : ∀ l:List α,(∀ k,k<l.length→(f (ix l k)).Nodup∧∀ j,j<k→∀ x,x∈f (ix l k)→x∉f (ix l j))→(l.flatMap f).Nodup:=by
 intro l
 have key : ∀ k,k≤l.length→(∀ k,k<l.length→(f (ix l k)).Nodup∧∀ j,j<k→∀ x,x∈f (ix l k)→x∉f (ix l j))→((l.take k).flatMap f).Nodup:=by
  intro k
  induction k with
  | zero=>intro _ _;simp
  | succ k ih =>
   intro hk h
   rw [bD (by omega),List.flatMap_append,List.nodup_append]
   have hs:[ix l k].flatMap f=f (ix l k):=by simp
   rw [hs]
   refine ⟨ih (by omega) h,(h k (by omega)).1,fun a ha b hb e=>?_⟩
   subst e
   obtain ⟨y,hy,hay⟩:=List.mem_flatMap.mp ha
   obtain ⟨j,hj,rfl⟩:=List.getElem_of_mem hy
   have hj' : j<k:=by rw [List.length_take] at hj;omega
   rw [List.getElem_take,← dV (by omega:j<l.length)] at hay
   exact (h k (by omega)).2 j hj' a hb hay
 intro h
 have:=key l.length (Nat.le_refl _) h
 rwa [List.take_length] at this
theorem QS {α β:Type} [Inhabited α] [Inhabited β] (f:α→β) {l:List α} {i:Nat} (h:i<l.length):ix (l.map f) i=f (ix l i):=by
 rw [dV (by rw [List.length_map];exact h),List.getElem_map,← dV h]
section
variable {n i:Nat} {e:oU}
theorem EZ.prt (h:EZ n i e) {k:Nat} (hk:k<e.a.length) : ∀ t∈ix e.a k,∀ x∈t,x.k = -1∨0≤x.k∧x.k<e.c.length:=fun t ht x hx=>(((h.a k hk).2.2 t ht x hx).1).1
theorem ado {α:Type} [Inhabited α] {l:List α} {k:Nat} (h:l.length≤k):ix l k=default:=by unfold ix;rw [List.getD_eq_getElem?_getD,List.getElem?_eq_none h];rfl
theorem R3.ahQ:(default:R3).q=0:=by
 show rq false ⟨#[]⟩ ⟨#[]⟩=0
 exact DU 0
theorem EZ.amt (h:EZ n i e) (k:Nat):0≤(ix e.c k).a.q:=by
 by_cases hk:k<e.c.length
 ·exact (h.c k hk).2.2.1
 ·rw [ado (by omega)]
  show 0≤(default:R3).q
  rw [R3.ahQ];exact Rat.le_refl
theorem Fb {cs:List C5} {k:Nat} {t:dA} : t∈Xl cs k↔∃ r,r<8∧t=yQ cs r k:=by
 unfold Xl
 rw [List.mem_map]
 constructor
 ·rintro ⟨r,hr,rfl⟩;exact ⟨r,by simpa using hr,rfl⟩
 ·rintro ⟨r,hr,rfl⟩;exact ⟨r,by simpa using hr,rfl⟩
theorem Oa (h:EZ n i e):UU (mM e)∧InE e.c.length (mM e):=by
 have hA : ∀ k,k<e.a.length→xU (fun q=>0≤q) e.c.length (nK e.c (ix e.a k)).2:=fun k hk=>Xm agJ h.amt fun t ht x hx=>((h.a k hk).2.2 t ht x hx).1
 refine ⟨⟨fun t ht p hp=>?_,fun p hp t ht q hq=>?_⟩,⟨fun t ht p hp=>?_,fun p hp t ht q hq=>?_,?_,fun i hi=>?_⟩⟩
 ·obtain ⟨r,-,rfl⟩:=Fb.mp ht
  exact (IU (P:=fun q=>0≤q) (fun i _=>h.amt i) r _ (Nat.le_refl _) p hp).2
 ·obtain ⟨a,ha,rfl⟩:=List.mem_map.mp hp
  obtain ⟨k,hk,rfl⟩:=List.getElem_of_mem ha
  rw [← dV hk] at ht
  exact (hA k hk t ht q hq).2
 ·obtain ⟨r,-,rfl⟩:=Fb.mp ht
  exact (IU (P:=fun q=>0≤q) (fun i _=>h.amt i) r _ (Nat.le_refl _) p hp).1
 ·obtain ⟨a,ha,rfl⟩:=List.mem_map.mp hp
  obtain ⟨k,hk,rfl⟩:=List.getElem_of_mem ha
  rw [← dV hk] at ht
  exact (hA k hk t ht q hq).1
 ·show ((e.a.map (nK e.c)).flatMap (·.1)).Nodup
  rw [List.flatMap_map]
  refine IW (fun a=>(nK e.c a).1) e.a fun k hk=>⟨U5 (h.prt hk),fun j hj x hx hx2=>?_⟩
  have h1:=(qU (h.prt hk)).mp hx
  have h2:=(qU (h.prt (by omega:j<e.a.length))).mp hx2
  obtain ⟨t,ht,hm⟩:=List.any_eq_true.mp h1
  obtain ⟨y,hy,ey⟩:=List.any_eq_true.mp hm
  have ey:y.k=(x:Int):=by simpa using ey
  have:=((h.a k hk).2.2 t ht y hy).2 (by omega)
  rw [ey] at this
  unfold kD at this
  rw [List.any_eq_false] at this
  refine this (ix e.a j) ?_ h2
  rw [← NH (l:=e.a) hj]
  exact jL (by rw [List.length_take];omega)
 ·obtain ⟨p,hp,hi⟩:=List.mem_flatMap.mp hi
  obtain ⟨a,ha,rfl⟩:=List.mem_map.mp hp
  obtain ⟨k,hk,rfl⟩:=List.getElem_of_mem ha
  rw [← dV hk] at hi
  have h1:=(qU (h.prt hk)).mp hi
  have:=nT (h.prt hk) i (oh.mpr ⟨by omega,h1⟩)
  omega
end
theorem Ob {g:iy} (h:GZ g):GOk g.e.length (mV g):=by
 refine ⟨fun i hi=>(Oa (h.e i hi)).1,fun i hi=>(Oa (h.e i hi)).2,fun i c hi hc=>?_,fun l hl=>?_,?_,fun d hd=>?_⟩
 ·have:=((h.e i hi).c c hc).2.2.2
  show (ix (ix g.e i).c c).h = -1∨0≤(ix (ix g.e i).c c).h∧(ix (ix g.e i).c c).h<(g.e.length:Int)
  omega
 ·obtain ⟨d,hd,hl⟩:=List.mem_flatMap.mp hl
  obtain ⟨d',hd',rfl⟩:=List.mem_map.mp hd
  obtain ⟨j,hj,rfl⟩:=List.getElem_of_mem hd'
  obtain ⟨x,hx,rfl⟩:=List.mem_map.mp hl
  rw [← dV hj] at hx
  obtain ⟨k,hk,rfl⟩:=List.getElem_of_mem hx
  obtain ⟨a,b,e1,h1,h2,-⟩:=(h.l j hj).2.2 k hk
  rw [← dV hk,e1]
  exact ⟨h1,h2⟩
 ·show ((g.d.map fun d=>(d.w.q,d.l.map yZ)).flatMap (·.2)).Nodup
  rw [List.flatMap_map]
  have key : ∀ d,d<g.d.length→∀ k,k<(ix g.d d).l.length→∀ y∈gZ g.d d k,(0≤y.e∧0≤y.k)→yZ y≠yZ (ix (ix g.d d).l k):=fun d hd k hk y hy hn e=>by
   obtain ⟨a,b,e1,h1,h2,h3,-⟩:=(h.l d hd).2.2 k hk
   unfold qL at h3
   rw [List.any_eq_false] at h3
   refine h3 y hy ?_
   rw [e1] at e ⊢
   unfold yZ at e
   simp at e ⊢
   omega
  have nn : ∀ d,d<g.d.length→∀ y∈(ix g.d d).l,0≤y.e∧0≤y.k:=fun d hd y hy=>by
   obtain ⟨k,hk,rfl⟩:=List.getElem_of_mem hy
   obtain ⟨a,b,e1,-⟩:=(h.l d hd).2.2 k hk
   rw [← dV hk,e1]
   exact ⟨Int.natCast_nonneg a,Int.natCast_nonneg b⟩
  refine IW (fun d:nR=>d.l.map yZ) g.d fun d hd=>⟨?_,fun j hj x hx hx2=>?_⟩
  ·have:(List.range (ix g.d d).l.length).Pairwise (· < ·):=List.pairwise_lt_range
   rw [List.nodup_iff_pairwise_ne,List.pairwise_map,List.pairwise_iff_getElem]
   intro a b ha hb hab
   have:=key d hd b hb (ix (ix g.d d).l a) (List.mem_append_right _ ?_) ?_
   ·rw [dV ha,dV hb] at this;exact this
   ·rw [← NH (l:=(ix g.d d).l) hab]
    exact jL (by rw [List.length_take];omega)
   ·exact nn d hd _ (jL ha)
  ·obtain ⟨y,hy,rfl⟩:=List.mem_map.mp hx
   obtain ⟨z,hz,e⟩:=List.mem_map.mp hx2
   obtain ⟨k,hk,rfl⟩:=List.getElem_of_mem hy
   rw [← dV hk] at e
   refine key d hd k hk z (List.mem_append_left _ (List.mem_flatMap.mpr ⟨ix g.d j,?_,hz⟩)) (nn j (by omega) z hz) e
   rw [← NH (l:=g.d) hj]
   exact jL (by rw [List.length_take];omega)
 ·obtain ⟨d',hd',rfl⟩:=List.mem_map.mp hd
  obtain ⟨j,hj,rfl⟩:=List.getElem_of_mem hd'
  rw [← dV hj]
  exact (h.l j hj).2.1
end Go.Proofs.Ins
namespace Go.Proofs.Xe
open Go.RowKit Go.Proofs.Ins
def vQ:Rat:=((256 ^ uK:Nat):Rat)
def uQ:Rat:=((256 ^ 900:Nat):Rat)
theorem BF:0≤uQ:=by
 have:((0:Nat):Rat)≤((256 ^ 900:Nat):Rat):=Rat.natCast_le_natCast.mpr (Nat.zero_le _)
 exact this
theorem pow_two {a b c:Nat} (h:a+b=c):256 ^ a*256 ^ b=256 ^ c:=by rw [← h,Nat.pow_add]
theorem xY {k:Nat} (h:k≤256 ^ 100):(k:Rat)*uQ≤vQ:=by
 unfold uQ vQ
 rw [← Rat.natCast_mul]
 refine Rat.natCast_le_natCast.mpr ?_
 calc k*256 ^ 900≤256 ^ 100*256 ^ 900:=Nat.mul_le_mul_right _ h
  _=256 ^ uK:=pow_two (show 100+900=uK from rfl)
theorem ahR {k:Nat} (h:k≤256 ^ 100):(k:Rat)≤vQ:=by
 unfold vQ
 exact Rat.natCast_le_natCast.mpr (Nat.le_trans h (Nat.pow_le_pow_right (by decide) (by decide)))
abbrev BH (A:Nat) (q:Rat):Prop:=jm A q∧0≤q∧q≤uQ
section
variable {A n:Nat} {l:iH}
theorem Oc {t:dA} (h:uM (BH A) n t):aU t≤(t.length:Rat)*uQ:=by
 induction t with
 | nil=>show (0:Rat)≤_;simp
 | cons p t ih =>
  have h1:=ih fun q hq=>h q (by simp [hq])
  have h2:=(h p (by simp)).2.2.2
  rw [List.length_cons,Rat.natCast_add]
  show p.2+aU t≤_
  have:((1:Nat):Rat)=1:=rfl
  grind
theorem Ir : ∀ {l:iH},xU (BH A) n l→rE l≤(dO l:Rat)*uQ
 | [],_=>by show (0:Rat)≤((0:Nat):Rat)*uQ;have:((0:Nat):Rat)=0:=rfl;grind
 | t::l,h=>by
  have h1:=Ir (l:=l) fun u hu=>h u (by simp [hu])
  have h2:=Oc (h t (by simp))
  show aU t+rE l≤((t.length+dO l:Nat):Rat)*uQ
  rw [Rat.natCast_add]
  grind
theorem Oe : ∀ {l:iH},UO l→0≤rE l
 | [],_=>Rat.le_refl
 | t::l,h=>by
  have:=Oe (l:=l) fun u hu=>h u (by simp [hu])
  have:=sD (h t (by simp))
  show 0≤aU t+rE l
  grind
theorem adp : ∀ {l:iH} {j:Nat},UO l→j<l.length→aU (ix l j)≤rE l
 | t::l,0,h,_=>by
  have:=Oe (l:=l) fun u hu=>h u (by simp [hu])
  show aU t≤aU t+rE l
  grind
 | t::l,j+1,h,hj=>by
  have:=adp (l:=l) (j:=j) (fun u hu=>h u (by simp [hu])) (by simpa using hj)
  have:=sD (h t (by simp))
  show aU (ix l j)≤aU t+rE l
  grind
theorem U8 : ∀ {l:iH} (k:Nat),UO l→0≤xQ l k∧xQ l k≤rE l
 | [],k,h=>by unfold xQ;rw [List.take_nil];exact ⟨Rat.le_refl,Rat.le_refl⟩
 | t::l,0,h=>⟨Rat.le_refl,Oe h⟩
 | t::l,k+1,h=>by
  obtain ⟨h1,h2⟩:=U8 (l:=l) k fun u hu=>h u (by simp [hu])
  have:=sD (h t (by simp))
  unfold xQ at h1 h2 ⊢
  rw [List.take_succ_cons]
  show 0≤aU t+rE _∧aU t+rE _≤aU t+rE l
  grind
end
structure EB (n:Nat) (e:iG):Prop where
 nb:n≤1000
 r0:0<e.rk.length
 r1:e.rk.length≤1000
 rn:dO e.rk≤1000
 ps:e.ps.length≤1000
 m : ∀ p∈e.ps,p.1.length≤1000∧∀ i∈p.1,i<n
 p : ∀ p∈e.ps,0<p.2.length∧p.2.length≤1000∧dO p.2≤10000
section
variable {A B R D n:Nat} {l:iH} {m x:Rat}
theorem mW (hD:Eb D) (hB:B ∣ D) {q:Rat} (h:jm B q) (h0:0≤q) (h1:q≤vQ):Zk D 1 q:=Zk.of hD.1 (h.dvd hB hD.1) h0 h1
theorem tJ:2≤256 ^ uK:=Nat.le_trans (by decide:2≤256 ^ 1) (Nat.pow_le_pow_right (by decide) (by decide))
theorem yJ : ∀ {l:iH} {t:dA},t∈l→t.length≤dO l
 | u::l,t,h=>by
  unfold dO
  rcases List.mem_cons.mp h with rfl|h
  ·omega
  ·have:=yJ h;omega
theorem QT (hD:Eb D) (hA:A ∣ D) (h:xU (BH A) n l) (hl:l.length≤1000) (hn:dO l≤10000):QF D n l:=by
 have hU:=xY (k:=10000) (by decide)
 have hU1:=xY (k:=1) (by decide)
 have hz : ∀ t∈l,∀ p∈t,Zk D 1 p.2:=fun t ht p hp=>by
  have:=(h t ht p hp).2
  refine mW hD hA this.1 this.2.1 ?_
  have:((1:Nat):Rat)=1:=rfl
  grind
 refine ⟨by omega,fun t ht=>by have:=yJ ht;omega,fun t ht=>?_,fun t ht p hp=>(h t ht p hp).1,fun t ht p hp=>(hz t ht p hp).sz hD (by have:=tJ;omega),hz⟩
 have h1:=Oc (h t ht)
 have h2:(t.length:Rat)≤((10000:Nat):Rat):=Rat.natCast_le_natCast.mpr (by have:=yJ ht;omega)
 have h3:=Rat.mul_le_mul_of_nonneg_right h2 BF
 refine (mW hD hA (zK fun p hp=>⟨(h t ht p hp).2.1,(h t ht p hp).2.2.1⟩) (sD fun p hp=>(h t ht p hp).2.2.1) (by grind)).sz hD (by have:=tJ;omega)
theorem Xo (hA0:0<A) (hD:Eb D) (hA:A ∣ D) (h:xU (BH A) n l) (hn:dO l≤10000) (hB:B ∣ D) (hm:jm B m) (h0:0≤m) (h1:m≤vQ) (hR0:0<R) (hR:R*yR A l m ∣ D) (hx:jm R x) (hx0:0≤x) (hx1:x≤vQ):NY D l m x:=by
 have hnn:=h.D.nn
 have hR1:R ∣ D:=Nat.dvd_trans (Nat.dvd_mul_right _ _) hR
 have hU:=xY (k:=10000) (by decide)
 have h2:(dO l:Rat)≤((10000:Nat):Rat):=Rat.natCast_le_natCast.mpr hn
 have h3:=Rat.mul_le_mul_of_nonneg_right h2 BF
 have ht:=Ir h
 have hu:=tJ
 have hzx:=mW hD hR1 hx hx0 hx1
 refine ⟨fun k _=>?_,h0,hzx.sz hD (by omega),fun hf=>?_,fun hf p hp=>?_⟩
 ·have hc:=U8 k hnn
  exact ((mW hD hB hm h0 h1).sub (mW hD hA (adl h.D k) hc.1 (by grind))).sz hD (by omega)
 ·have hs:=xW h0 hf
  have:=adp hnn hf
  exact hzx.amH (mW hD hA (zK (h.D _ (je hf))) (Rat.le_of_lt hs) (by grind)) hD (by omega) (by omega) (by grind)
 ·have hs:=xW h0 hf
  have hpp:=h.D _ (je hf) p hp
  have hps:p.2≤aU (ix l (fF l m)):=by
   have : ∀ t:dA,(∀ q∈t,0≤q.2)→p∈t→p.2≤aU t:=fun t=>by
    induction t with
    | nil=>intro _ h;cases h
    | cons q t ih =>
     intro hq hp
     show p.2≤q.2+aU t
     have h4:=hq q (by simp)
     have h5:0≤aU t:=sD fun r hr=>hq r (by simp [hr])
     rcases List.mem_cons.mp hp with rfl|hp
     ·grind
     ·have:=ih (fun r hr=>hq r (by simp [hr])) hp
      grind
   exact this _ (fun q hq=>(h.D _ (je hf) q hq).2) hp
  have e:p.2*(x/aU (ix l (fF l m)))=x*(p.2/aU (ix l (fF l m))):=by grind
  have h4:=zJ hs hps
  have h5:=acU hpp.2 hs
  have h6:=Rat.mul_le_mul_of_nonneg_left h4 hx0
  refine mW hD hR (ahM hA0 h.D h0 hR0 hx hf hpp.1) ?_ ?_
  ·rw [e];exact Rat.mul_nonneg hx0 h5
  ·rw [e];grind
theorem left_le (h0:0≤m) (h:UO l):0≤jk l m∧jk l m≤m:=by
 refine ⟨(NW l m h0).1,?_⟩
 rw [QE]
 have:=(U8 (fF l m) h).1
 grind
theorem akw {l:iH} (h:UO l) (c:Int) : ∀ {m:Rat},0≤m→gB l m c≤rE l:=by
 induction l with
 | nil=>intro m _;exact Rat.le_refl
 | cons t l ih =>
  intro m hm
  have hl:=Oe (l:=l) fun u hu=>h u (by simp [hu])
  have h2:=NT (h t (by simp)) c
  have h3:=Bo (h t (by simp)) c
  unfold gB
  show _≤aU t+rE l
  split
  ·next hlt =>
   have h4:=zJ (a:=m) (b:=aU t) (by grind) (Rat.le_of_lt hlt)
   have h5:=Rat.mul_le_mul_of_nonneg_left h4 h3
   grind
  ·have:=ih (fun u hu=>h u (by simp [hu])) (m:=m - aU t) (by grind)
   grind
end
section
variable {A B D n:Nat} {m:Rat} {e:iG}
theorem QU {α:Type} {f:α→Rat} {v:Rat} (h0:0≤v) : ∀ {l:List α} {k:Nat},(∀ a∈l,f a≤v)→l.length≤k→aO l f≤(k:Rat)*v
 | [],k,_,_=>by
  have:((0:Nat):Rat)≤(k:Rat):=Rat.natCast_le_natCast.mpr (Nat.zero_le _)
  exact Rat.mul_nonneg this h0
 | a::l,k,h,hk=>by
  obtain ⟨k,rfl⟩ : ∃ j,k=j+1:=⟨k - 1,by simp at hk;omega⟩
  have h1:=QU h0 (l:=l) (k:=k) (fun b hb=>h b (by simp [hb])) (by simpa using hk)
  have h2:=h a (by simp)
  show f a+aO l f≤_
  rw [Rat.natCast_add]
  have:((1:Nat):Rat)=1:=rfl
  grind
theorem akx (h:ED A uQ n e) (hb:EB n e) (h0:0≤m) {p:List Nat×iH} (hp:p∈e.ps):sF e m p≤vQ:=by
 have ht:=Ir h.rk
 have h2:(dO e.rk:Rat)≤((1000:Nat):Rat):=Rat.natCast_le_natCast.mpr hb.rn
 have h3:=Rat.mul_le_mul_of_nonneg_right h2 BF
 have h4:=QU (f:=Eh e m) (v:=((1000:Nat):Rat)*uQ) (Rat.mul_nonneg (Rat.natCast_le_natCast.mpr (Nat.zero_le 1000)) BF) (l:=p.1) (k:=1000) (fun c _=>Rat.le_trans (akw h.rk.D.nn c h0) (Rat.le_trans ht h3)) (hb.m p hp).1
 have h5:=xY (k:=1000*1000) (by decide)
 rw [Rat.natCast_mul] at h5
 have:sF e m p=aO p.1 (Eh e m):=rfl
 grind
theorem aky (hD:Eb D) (hA:A ∣ D) (h:ED A uQ n e) (hb:EB n e):EOk D n e:=by
 have hn:=hb.nb
 have hps:=hb.ps
 refine ⟨by omega,QT hD hA h.rk hb.r1 (by have:=hb.rn;omega),hb.r0,by omega,fun p hp=>⟨by have:=(hb.m p hp).1;omega,(hb.m p hp).2⟩,fun p hp=>⟨QT hD hA (h.ps p hp) (hb.p p hp).2.1 (hb.p p hp).2.2,(hb.p p hp).1⟩,?_⟩
 have h1 : ∀ l:List (List Nat×iH),(∀ p∈l,dO p.2≤10000)→Dz l≤l.length*10000:=fun l=>by
  induction l with
  | nil=>intro _;exact Nat.le_refl 0
  | cons p l ih =>
   intro h
   have:=ih fun q hq=>h q (by simp [hq])
   have:=h p (by simp)
   unfold Dz
   rw [List.length_cons];omega
 have h2:=h1 e.ps fun p hp=>(hb.p p hp).2.2
 have h3:=hb.rn
 have h4:256 ^ 5≤256 ^ uK:=Nat.pow_le_pow_right (by decide) (by decide)
 refine Nat.le_trans (?_:_≤1099511627776) h4
 clear h4
 have h5:e.ps.length*10000≤1000*10000:=Nat.mul_le_mul_right _ hps
 have h6:dO e.rk*1000001≤1000*1000001:=Nat.mul_le_mul_right _ h3
 exact Nat.le_trans (Nat.add_le_add h6 (Nat.le_trans h2 h5)) (by decide)
theorem akz (hA0:0<A) (hB0:0<B) (hAB:A ∣ B) (hD:Eb D) (hBD:B*QL A e m ∣ D) (h:ED A uQ n e) (hb:EB n e) (hm:jm B m) (h0:0≤m) (h1:m≤vQ):MOk D e m:=by
 have hB:B ∣ D:=Nat.dvd_trans (Nat.dvd_mul_right _ _) hBD
 have hA:A ∣ D:=Nat.dvd_trans hAB hB
 have hr:B*yR A e.rk m ∣ D:=Nat.dvd_trans (Nat.mul_dvd_mul_left _ (Nat.dvd_mul_right _ _)) hBD
 have hr0:=Nat.mul_pos hB0 (xX hA0 h.rk.D h0)
 refine ⟨(mW hD hB hm h0 h1).sz hD (by have:=tJ;omega),?_,fun p hp=>?_⟩
 ·have hl:=left_le h0 h.rk.D.nn
  exact Xo hA0 hD hA h.rk (by have:=hb.rn;omega) hB hm h0 h1 hB0 hr (U7 hA0 hB0 hAB h.rk.D hm) hl.1 (Rat.le_trans hl.2 h1)
 ·have hg:=vN h.nn h0 p
  have hgD:=ahP hA0 hB0 hAB h hm h0 p
  have hgl:=akx h hb h0 hp
  have hl:=left_le hg (h.ps p hp).D.nn
  have hd:B*yR A e.rk m*yR A p.2 (sF e m p) ∣ D:=by
   refine Nat.dvd_trans ?_ hBD
   rw [Nat.mul_assoc]
   exact Nat.mul_dvd_mul_left _ (Nat.mul_dvd_mul_left _ (IV A e m hp))
  exact ⟨Xo hA0 hD hA (h.ps p hp) (hb.p p hp).2.2 hr hgD hg hgl hr0 hd (U7 hA0 hr0 (Nat.dvd_trans hAB (Nat.dvd_mul_right _ _)) (h.ps p hp).D hgD) hl.1 (Rat.le_trans hl.2 hgl),(mW hD hr hgD hg hgl).sz hD (by have:=tJ;omega)⟩
end
section
variable {E:Env} [UM E] {p:Nat→Prop} {σ:St} {K:V→St→Prop}
theorem agK {ev dv:B} {g:iy} (hg:oL p σ.h ev dv g) (hs:tq 134217728 g):aT E 27 [.agg [ev,dv]] σ K=K (.c (.int .i64 (oK g))) σ :=
 Du (by
  have h:=af4 hg hs
  unfold NR Uf qK Zo Zn
  simp only [Nat.reduceEqDiff,reduceIte,h])
theorem Ld {v:B} {a:eU} (ha:fE p σ.h v a) (h1:a.length≤1000000) (h2:a.flatten.length≤1000000) {v' : V} {σ' : St} (hm:acQ (tu a) σ=some (v',σ')):aT E 90 [.agg [v]] σ K=K v' σ' :=
 Du (by
  have h:=(agi ha h1 h2).trans hm
  unfold NR Uf qK Zo Zn
  simp only [Nat.reduceEqDiff,reduceIte,h])
end
theorem ZJ {E:Env} [UM E] {σ:St} (hW:WF σ) {p:Nat→Prop} {v:B} {a:eU} (ha:fE p σ.h v a) (h1:a.length≤1000000) (h2:a.flatten.length≤1000000) :
  aT E 90 [.agg [v]] σ fun r σ'=>(∃ u,r = .c u∧uI σ'.h u (tu a).length (fun i=>[.int .i64 (ix (tu a) i)]) 1 3 σ.ah σ'.ah)∧Fr σ σ':=by
 by_cases h0:(tu a).length=0
 ·rw [Ld ha h1 h2 (v':=.c .aW) (σ':=σ) (if_pos h0)]
  exact ⟨⟨_,rfl,.inl ⟨h0,rfl⟩⟩,Fr.refl hW⟩
 ·rw [Ld ha h1 h2 (if_neg h0)]
  exact ⟨⟨_,rfl,.inr ⟨by omega,_,rfl,au _ _ _,Nat.le_refl _,Nat.lt_succ_self _⟩⟩,fr⟩
theorem agL {a:eU} {n:Nat} (ha : ∀ t∈a,∀ x∈t,x.k = -1∨0≤x.k∧x.k<n) {i:Nat} (hi:i<(tu a).length):B.int .i64 (ix (tu a) i)=JK (jE a) i:=by
 unfold JK jE
 rw [QS Int.toNat hi]
 have:=nT ha _ (jL hi)
 show _=B.int .i64 ((ix (tu a) i).toNat:Int)
 rw [Int.toNat_of_nonneg this.1]
theorem QW (a:eU):(jE a).length=(tu a).length:=List.length_map _
structure TS (σ:St) (tb bs:Nat) (t:dA):Prop where
 b:σ.h tb=some ⟨jr (aN t.length bs) (aU t),none⟩
 o:IK σ.h bs t
 lo:tb<bs
 hi:t.length=0∨bs<σ.ah
theorem TS.lt {σ:St} (hW:WF σ) {tb bs:Nat} {t:dA} (h:TS σ tb bs t):tb<σ.ah:=hW.lt h.b
theorem TS.on {σ σ' : St} {tb bs:Nat} {t:dA} (h:TS σ tb bs t) (h1 : ∀ b,tb≤b→b<σ.ah→σ'.h b=σ.h b) (hW:WF σ) (hle:σ.ah≤σ'.ah):TS σ' tb bs t:=by
 have h0:=h.lt hW
 have hlo:=h.lo
 have hhi:=h.hi
 refine ⟨by rw [h1 tb (Nat.le_refl _) h0];exact h.b,?_,hlo,by omega⟩
 refine (pV ?_).trans h.o
 rcases hhi with hhi|hhi
 ·exact .inl hhi
 ·exact .inr (h1 bs (by omega) hhi)
theorem TS.fr {σ σ' : St} {tb bs:Nat} {t:dA} (h:TS σ tb bs t) (hW:WF σ) (hf:Fr σ σ'):TS σ' tb bs t:=h.on (fun b _ hb=>hf.old b hb) hW hf.le
theorem TS.fre {σ σ' : St} {ex:List Nat} {tb bs:Nat} {t:dA} (h:TS σ tb bs t) (hW:WF σ) (hf:fG ex σ σ') (hx : ∀ b∈ex,b<tb):TS σ' tb bs t:=h.on (fun b h1 h2=>hf.old b h2 fun hm=>by have:=hx b hm;omega) hW hf.le
theorem U9 {σ:St} (hW:WF σ) {tb bs:Nat} {t:dA} (hT:TS σ tb bs t) (hl:t.length≤1000000) (k:Int) (q:Rat) (hs:Sz (aU t)) (hq:Sz q) :
  aT EN 92 [.c (.ptr tb 0),.c (.int .i64 k),.agg [.bool (rn q),.str (rs q),.str (rd q)]] σ fun _ σ'=>(∃ bs',TS σ' tb bs' (t ++ [(k,q)]))∧(∀ b,b<tb→σ'.h b=σ.h b)∧WF σ'∧σ.ah≤σ'.ah:=by
 have h0:=hT.lo
 have hlt:=hT.lt hW
 have:=adg (G:=fun _=>jr (aN t.length bs) (aU t)) (n:=1) (r:=0) hW (by rw [hT.b];rfl) (by decide) (fun _=>rfl) rfl rfl rfl hT.o (.inr (by omega)) hT.hi hl k q hs hq
 refine this.mono ?_
 rintro _ σ' ⟨nx,h1,h2,h3,h4,h5⟩
 have hle:=h5.le
 refine ⟨⟨nx,?_,?_,by omega,.inr h2⟩,fun b hb=>h5.old b (by omega) (by simp;omega),h5.wf,hle⟩
 ·rw [h3,Lc,List.length_append];rfl
 ·unfold IK
  rw [List.length_append,List.length_singleton]
  show σ'.h nx=some _
  rw [h4,jg]
  congr 2
  refine dB fun j hj=>?_
  unfold iT
  split
  ·next e=>rw [e,fA]
  ·rw [eY _ _ (by omega)]
end Go.Proofs.Xe
