/- dZ.Lay, in the dR words. -/
import Derived.Test.YtjonjhcaniinaaaGreatDoorZ33
set_option linter.unusedSimpArgs false
set_option linter.unusedVariables false
set_option maxHeartbeats 8000000
namespace Go.Proofs.Xe
open Go.RowKit Go.Proofs.Ins
/-! ### V5 -/
theorem ady {a d:Nat} (hd:1≤d) (h6:d≤6) (ha:a≤30) : ∃ k:Nat,k≤1800∧((a:Int):Rat)/((d:Int):Rat)=((k:Int):Rat)/((60:Nat):Rat):=by
 have key : ∀ p q:Int,q*p=60→((a:Int):Rat)/(p:Rat)=((a:Int):Rat)*(q:Rat)/60:=fun p q h=>by
  have h2:(q:Rat)*(p:Rat)=60:=by rw [← Rat.intCast_mul,h];rfl
  have h3:(p:Rat)≠0:=fun e=>by rw [e,Rat.mul_zero] at h2;exact absurd h2 (by decide)
  grind
 refine ⟨a*(60/d),Nat.mul_le_mul ha (Nat.div_le_self 60 d),?_⟩
 have e60:((60:Nat):Rat)=60:=rfl
 have e1:((a*(60/d):Nat):Int)=(a:Int)*((60/d:Nat):Int):=Int.natCast_mul ..
 rw [e60,e1,Rat.intCast_mul]
 refine key _ _ ?_
 have:d=1∨d=2∨d=3∨d=4∨d=5∨d=6:=by omega
 rcases this with rfl|rfl|rfl|rfl|rfl|rfl <;> rfl
theorem I7 {a:Nat} (ha:a≤30) : ∃ k:Nat,k≤1800∧((a:Int):Rat)=((k:Int):Rat)/((60:Nat):Rat):=by
 obtain ⟨k,h2,h3⟩:=ady (a:=a) (d:=1) (by decide) (by decide) ha
 refine ⟨k,h2,?_⟩
 rw [← h3]
 have e:(((1:Nat):Int):Rat)=1:=rfl
 rw [e];grind
theorem akK (x:Nat) : ∃ k:Nat,k≤1800∧amt x=((k:Int):Rat)/((60:Nat):Rat):=by
 by_cases h0:x%5=0
 ·rw [V3 h0];exact ady (by omega) (by omega) (by omega)
 ·by_cases h1:x%5=1
  ·rw [aaN h1];exact I7 (by omega)
  ·rw [aaO h0 h1];exact I7 (by omega)
abbrev qh (A:Nat) (U:Rat) (q:Rat):Prop:=jm A q∧0≤q∧q≤U
theorem adz {A:Nat} {U:Rat} (hU:0≤U):JL (qh A U) where
 min:=fun a b ha hb=>by unfold mF;split <;> assumption
 sub:=fun a b ha hb=>by
  have h1:=ha.2;have h2:=hb.2
  unfold mF;split
  ·rw [show a - a=0 by grind];exact ⟨jm.zero A,Rat.le_refl,hU⟩
  ·exact ⟨ha.1.sub hb.1,by grind,by grind⟩
 zero:=⟨jm.zero A,Rat.le_refl,hU⟩
theorem adA {q:Rat} (h : ∃ k:Nat,k≤1800∧q=((k:Int):Rat)/((60:Nat):Rat)):qh 60 30 q:=by
 obtain ⟨k,hk,e⟩:=h
 refine ⟨⟨k,e⟩,?_⟩
 have e60:((60:Nat):Rat)=60:=rfl
 have h1:(0:Rat)≤((k:Int):Rat):=Rat.intCast_nonneg.mpr (Int.natCast_nonneg k)
 have h2:((k:Int):Rat)≤((1800:Int):Rat):=Rat.intCast_le_intCast.mpr (by omega)
 have e3:((1800:Int):Rat)=1800:=rfl
 rw [e60] at e
 rw [e3] at h2
 constructor <;> grind
theorem sJ (x:Nat):qh 60 30 (amt x):=adA (akK x)
theorem BL {q:Rat} (h:0≤q) : ¬ sg q<0:=by
 rcases nU q with ⟨h1,h2⟩|⟨h1,h2⟩|⟨h1,h2⟩
 ·exfalso;grind
 ·rw [h1];decide
 ·rw [h1];decide
theorem kpow {k a b:Nat} (h:k≤256 ^ a) (hab:a≤b):k≤256 ^ b:=Nat.le_trans h (Nat.pow_le_pow_right (by decide) hab)
theorem aoW:(30:Rat)≤uQ:=by
 have h:((30:Nat):Rat)≤uQ:=by
  unfold uQ
  exact Rat.natCast_le_natCast.mpr (kpow (a:=1) (b:=900) (by decide) (by decide))
 exact h
theorem qh.up {A:Nat} {q:Rat} (h:qh A 30 q):BH A q:=⟨h.1,h.2.1,Rat.le_trans h.2.2 aoW⟩
/-! ### What adu builds -/
structure BG (n:Nat) (m:Nat→Rat) (cl:Nat→List C5) (al:Nat→List eU) (dl:List nR):Prop where
 n0:0<n
 n4:n≤4
 mm : ∀ i,i<n→∃ v,m i=amt v
 c : ∀ i,i<n→(cl i).length≤6∧∀ k,k<(cl i).length→y8 n i (ix (cl i) k)
 a : ∀ i,i<n→BK (cl i).length (al i)
 d:dl.length≤3∧∀ j,j<dl.length→(ix dl j).l.length≤4∧∃ v,(ix dl j).w=qY (amt v)
 dg : ∀ j,j<dl.length→LGf (iC n m cl al) (dl.take j) (ix dl j).l
theorem adB {al:List eU} {k:Nat} {c:Int} (h:ada (al.take k) c):kD al k c=false:=by
 unfold kD
 rw [List.any_eq_false]
 intro a ha hm
 obtain ⟨j,hj,rfl⟩:=List.getElem_of_mem ha
 rw [← dV hj] at hm
 obtain ⟨t,ht,hm⟩:=WS.mp hm
 obtain ⟨p,hp,e⟩:=WQ.mp hm
 exact h j hj t ht p hp e
theorem Ve {nc:Nat} {al:List eU} {k:Nat} {x:vZ} (h:Lh nc (al.take k) x):pY nc (kD al k) x=0:=by
 obtain ⟨h1,w,hw,e⟩:=h
 have hq : ¬ sg x.a.q<0:=BL (by rw [e,DV];exact Rat.intCast_nonneg.mpr (Int.natCast_nonneg w))
 unfold pY
 rcases h1 with ⟨h1,h2⟩|⟨i,hi,h1,h2⟩
 ·rw [if_neg (by omega),if_neg (fun h=>by rw [h2] at h;cases h.2),if_neg (fun h=>hq h.2),if_neg (fun h=>h.1 h1)]
 ·rw [if_neg (by omega),if_neg (fun h=>by omega),if_neg (fun h=>hq h.2),if_neg (fun h=>by rw [adB h2] at h;cases h.2)]
theorem Vf {nc:Nat} (hn:nc≤6) {al:List eU} (h:BK nc al) {k:Nat} (hk:k<al.length):ru nc (kD al k) (ix al k)=0:=by
 obtain ⟨h3,ht⟩:=h.2 k hk
 unfold ru
 rw [if_neg (fun e=>by rw [su.mpr ⟨by omega,fun i hi=>by have:=(ht i (by omega)).2;omega⟩] at e;cases e)]
 refine dS fun t htl=>?_
 unfold af2
 exact dS fun p hp=>Ve ((ht t (by omega)).1 p hp)
theorem ZO {n i nc:Nat} (hn4:n≤4) {q:Rat} (hq:0≤q) {cs:List C5} {al:List eU} (hc:cs.length≤6∧∀ k,k<cs.length→y8 n i (ix cs k)) (ha:BK cs.length al):jU ⟨qY q,cs,al⟩=0:=by
 have h1:=hc.1
 have h2:=ha.1
 have e:kM (fun k=>mO (ix cs k)) cs.length=0:=dS fun k hk=>by
  obtain ⟨g1,⟨r,hr,g2⟩,v,g3⟩:=hc.2 k hk
  unfold mO
  rw [if_neg (by rcases g1 with g1|⟨j,hj,-,g1⟩ <;> omega),if_neg (by omega),if_neg (BL (by rw [g3,DV];exact (sJ v).2.1))]
 unfold jU
 dsimp only
 rw [if_neg (by omega),if_neg (BL (by rw [DV];exact hq)),if_neg (fun h=>h e)]
 exact dS fun k hk=>Vf h1 ha hk
theorem akL {x y:Ins.Lg} (h1:x.e=y.e) (h2:x.k=y.k):x=y:=by
 obtain ⟨a,b⟩:=x
 obtain ⟨c,d⟩:=y
 cases h1;cases h2;rfl
section
variable {n:Nat} {m:Nat→Rat} {cl:Nat→List C5} {al:Nat→List eU} {dl:List nR} {i:Nat}
theorem BG.leg (h:BG n m cl al dl) {d:Nat} (hd:d<dl.length) {k:Nat} (hk:k<(ix dl d).l.length):lN ⟨iC n m cl al,dl⟩ d k=0:=by
 obtain ⟨hv,hr,nd⟩:=h.dg d hd
 obtain ⟨e,c,hx,h1,h2,h3,h4,-⟩:=hr _ (jL hk)
 obtain ⟨-,-,-,-,-,-,h5,-⟩:=hr _ (jL (l:=(ix dl d).l) (i:=0) (by omega))
 have hne : ∀ y∈gZ dl d k,¬ (y.e=Int.ofNat e∧y.k=Int.ofNat c):=fun y hy=>by
  rcases List.mem_append.mp hy with hy|hy
  ·obtain ⟨D,hD,hy⟩:=List.mem_flatMap.mp hy
   obtain ⟨j,hj,rfl⟩:=List.getElem_of_mem hD
   rw [← dV hj] at hy
   obtain ⟨t,ht,rfl⟩:=List.getElem_of_mem hy
   rw [← dV ht]
   exact h3 j hj t ht
  ·rintro ⟨e1,e2⟩
   obtain ⟨k2,hk2,rfl⟩:=List.getElem_of_mem hy
   have hk3:k2<k:=by rw [List.length_take] at hk2;omega
   rw [List.nodup_iff_pairwise_ne,List.pairwise_iff_getElem] at nd
   have:=nd k2 k (by omega) hk hk3
   rw [List.getElem_take] at e1 e2
   rw [← dV hk,hx] at this
   exact this (akL e1 e2)
 have hlen:(iC n m cl al).length=n:=lH ..
 unfold lN
 dsimp only
 rw [hlen] at h1 ⊢
 rw [h4,h5,hx]
 have e1:((Int.ofNat e).toNat)=e:=rfl
 have e2:Int.ofNat e=(e:Int):=rfl
 have e3:Int.ofNat c=(c:Int):=rfl
 dsimp only
 rw [e1]
 rw [if_neg (by rw [e2,e3];omega),if_neg (fun hh=>by
  unfold qL at hh
  obtain ⟨y,hy,e⟩:=List.any_eq_true.mp hh
  rw [Bool.and_eq_true] at e
  exact hne y hy ⟨by simpa using e.1,by simpa using e.2⟩),if_neg (fun hh=>hh rfl)]
theorem BG.zero (h:BG n m cl al dl):oK ⟨iC n m cl al,dl⟩=0:=by
 have hlen:(iC n m cl al).length=n:=lH ..
 have hn:=h.n4
 have hd:=h.d.1
 have e1:kM (fun i=>jU (ix (iC n m cl al) i)) n=0:=dS fun i hi=>by
  rw [qy m cl al hi]
  obtain ⟨v,e⟩:=h.mm i hi
  exact ZO (nc:=0) hn (by rw [e];exact (sJ v).2.1) (h.c i hi) (h.a i hi)
 have e2:kM (fun i=>kM (kN ⟨iC n m cl al,dl⟩ i) (ix (iC n m cl al) i).c.length) n=0:=dS fun i hi=>dS fun k hk=>by
  unfold kN
  dsimp only
  rw [qy m cl al hi] at hk ⊢
  rw [hlen]
  obtain ⟨g1,-⟩:=(h.c i hi).2 k hk
  dsimp only
  rw [if_neg]
  rcases g1 with g1|⟨j,hj,hji,g1⟩
  ·rw [g1];omega
  ·rw [g1];omega
 unfold oK
 dsimp only
 rw [hlen,if_neg (by omega),if_neg (fun h=>h e1),if_neg (fun h=>h e2)]
 refine dS fun d hd=>?_
 unfold sZ
 dsimp only
 obtain ⟨h1,v,h2⟩:=h.d.2 d hd
 rw [if_neg (by omega),if_neg (BL (by rw [h2,DV];exact (sJ v).2.1))]
 exact dS fun k hk=>h.leg hd hk
/-! ### Numbers -/
theorem BG.cap (h:BG n m cl al dl) (hi:i<n) (k:Nat):qh 60 30 (ix (cl i) k).a.q:=by
 by_cases hk:k<(cl i).length
 ·obtain ⟨-,-,v,e⟩:=(h.c i hi).2 k hk
  rw [e,DV];exact sJ v
 ·rw [ado (by omega)]
  show qh 60 30 (default:R3).q
  rw [R3.ahQ];exact (adz (by decide)).zero
theorem BG.prt (h:BG n m cl al dl) (hi:i<n) {j:Nat} (hj:j<(al i).length) : ∀ t∈ix (al i) j,∀ x∈t,JM (qh 60 30) (cl i).length x:=fun t ht x hx=>by
 obtain ⟨h3,hT⟩:=(h.a i hi).2 j hj
 obtain ⟨a,ha,rfl⟩:=List.getElem_of_mem ht
 rw [← dV ha] at hx
 obtain ⟨p,hp,rfl⟩:=List.getElem_of_mem hx
 rw [← dV hp]
 obtain ⟨g1,w,hw,g2⟩:=(hT a (by omega)).1 p hp
 refine ⟨?_,fun _=>by rw [g2,DV];exact adA (I7 (by omega))⟩
 rcases g1 with ⟨g1,-⟩|⟨c,hc,g1,-⟩
 ·exact .inl g1
 ·exact .inr (by omega)
theorem BG.ed (h:BG n m cl al dl) (hi:i<n):ED 60 30 (cl i).length (mM ⟨qY (m i),cl i,al i⟩):=by
 refine ⟨fun t ht=>?_,fun p hp=>?_⟩
 ·obtain ⟨r,-,rfl⟩:=Fb.mp ht
  intro p hp
  have:=IU (P:=qh 60 30) (fun k _=>h.cap hi k) r _ (Nat.le_refl _) p hp
  exact ⟨.inr this.1,this.2⟩
 ·obtain ⟨a,ha,rfl⟩:=List.mem_map.mp hp
  obtain ⟨j,hj,rfl⟩:=List.getElem_of_mem ha
  have hj:j<(al i).length:=hj
  show xU _ _ (nK (cl i) (al i)[j]).2
  rw [← dV hj]
  exact Xm (P:=qh 60 30) (adz (by decide)) (h.cap hi) (h.prt hi hj)
theorem ED.up {A n:Nat} {e:iG} (h:ED A 30 n e):ED A uQ n e :=
 ⟨fun t ht p hp=>⟨(h.rk t ht p hp).1,qh.up (h.rk t ht p hp).2⟩,fun q hq t ht p hp=>⟨(h.ps q hq t ht p hp).1,qh.up (h.ps q hq t ht p hp).2⟩⟩
/-! ### agN -/
theorem I8 {k:Nat} : ∀ {l:iH},(∀ t∈l,t.length≤k)→dO l≤l.length*k
 | [],_=>Nat.zero_le _
 | t::l,h=>by
  have:=I8 (l:=l) fun u hu=>h u (by simp [hu])
  have:=h t (by simp)
  unfold dO
  rw [List.length_cons,Nat.succ_mul];omega
theorem xM {α:Type} {k:Nat} : ∀ {l:List (List α)},(∀ t∈l,t.length≤k)→l.flatten.length≤l.length*k
 | [],_=>Nat.zero_le _
 | t::l,h=>by
  have:=xM (l:=l) fun u hu=>h u (by simp [hu])
  have:=h t (by simp)
  rw [List.flatten_cons,List.length_append,List.length_cons,Nat.succ_mul];omega
theorem BG.tl (h:BG n m cl al dl) (hi:i<n) {j:Nat} (hj:j<(al i).length):(ix (al i) j).length=3∧∀ t∈ix (al i) j,t.length≤7:=by
 obtain ⟨h3,hT⟩:=(h.a i hi).2 j hj
 refine ⟨h3,fun t ht=>?_⟩
 obtain ⟨a,ha,rfl⟩:=List.getElem_of_mem ht
 rw [← dV ha]
 have:=(hT a (by omega)).2
 have:=(h.c i hi).1
 omega
theorem agW {cs:List C5} {a:eU} {k:Nat} (ha : ∀ t∈a,t.length≤k):(lsA cs a).2.length=a.length∧∀ t∈(lsA cs a).2,t.length≤k:=by
 rw [← BI]
 have hl:=vS cs a a.length (Nat.le_refl _)
 refine ⟨hl,fun t ht=>?_⟩
 obtain ⟨j,hj,rfl⟩:=List.getElem_of_mem ht
 rw [← dV hj,Oi (by omega) (Nat.le_refl _),Fe _ _ _ (Nat.le_refl _)]
 exact ha _ (jL (by omega))
theorem BG.eb (h:BG n m cl al dl) (hi:i<n):EB (cl i).length (mM ⟨qY (m i),cl i,al i⟩)∧dO (mM ⟨qY (m i),cl i,al i⟩).rk≤48∧(mM ⟨qY (m i),cl i,al i⟩).ps.length≤2∧∀ p∈(mM ⟨qY (m i),cl i,al i⟩).ps,dO p.2≤28:=by
 have hc:=(h.c i hi).1
 have ha:=(h.a i hi).1
 have hr8:(Xl (cl i) (cl i).length).length=8:=by unfold Xl;rw [List.length_map];rfl
 have hrk:dO (Xl (cl i) (cl i).length)≤8*6:=by
  rw [← hr8]
  refine I8 fun t ht=>?_
  obtain ⟨r,-,rfl⟩:=Fb.mp ht
  exact Nat.le_trans (Fg _ _ _) hc
 have hps : ∀ p∈(al i).map (nK (cl i)),p.2.length=4∧dO p.2≤28∧p.1.length≤6∧∀ k∈p.1,k<(cl i).length:=fun p hp=>by
  obtain ⟨a,ha,rfl⟩:=List.mem_map.mp hp
  obtain ⟨j,hj,rfl⟩:=List.getElem_of_mem ha
  rw [← dV hj]
  obtain ⟨h3,hT⟩:=h.tl hi hj
  obtain ⟨l1,l2⟩:=agW (cs:=cl i) hT
  have hP : ∀ t∈ix (al i) j,∀ x∈t,x.k = -1∨0≤x.k∧x.k<(cl i).length:=fun t ht x hx=>(h.prt hi hj t ht x hx).1
  have hm:=IY hP
  have h4:(nK (cl i) (ix (al i) j)).2.length=4:=by
   unfold nK
   show ((lsA _ _).2 ++ [_]).length=4
   rw [List.length_append,l1,h3];rfl
  refine ⟨h4,?_,by show (jE _).length≤6;omega,fun k hk=>?_⟩
  ·have:=I8 (k:=7) (l:=(nK (cl i) (ix (al i) j)).2) fun t ht=>by
    rcases List.mem_append.mp (show t∈(lsA (cl i) (ix (al i) j)).2 ++ [tH (jE (ix (al i) j)) (lsA (cl i) (ix (al i) j)).1] from ht) with ht|ht
    ·exact l2 t ht
    ·rw [List.mem_singleton] at ht
     rw [ht]
     unfold tH
     rw [List.length_map];omega
   rw [h4] at this
   omega
  ·have h1:=(qU hP).mp hk
   have:=nT hP k (oh.mpr ⟨by omega,h1⟩)
   omega
 refine ⟨⟨by omega,by show 0<(Xl (cl i) (cl i).length).length;omega,by show (Xl (cl i) (cl i).length).length≤1000;omega,by show dO (Xl (cl i) (cl i).length)≤1000;omega,by show ((al i).map _).length≤1000;rw [List.length_map];omega,fun p hp=>?_,fun p hp=>?_⟩,hrk,by show ((al i).map _).length≤2;rw [List.length_map];exact ha,fun p hp=>(hps p hp).2.1⟩
 ·have:=hps p hp
  exact ⟨by omega,this.2.2.2⟩
 ·have:=hps p hp
  omega
theorem nM (x:Nat):(qY (amt x)).fits 1000000:=OM ((ZB x).mono (by omega))
theorem Q9 {w:Nat} (h:w≤16):(qY ((Int.ofNat w:Int):Rat)).fits 1000000:=OM ((BA (k:=3) (by show w<16777216;omega) (by decide)).mono (by omega))
theorem BG.lay (h:BG n m cl al dl) (hi:i<n) {j:Nat} (hj:j<(al i).length):adt 60 (cl i) (ix (al i) j):=by
 have hc:=(h.c i hi).1
 obtain ⟨h3,hT⟩:=h.tl hi hj
 have hG:=((h.a i hi).2 j hj).2
 have hf:=xM hT
 refine ⟨by omega,by omega,fun t ht=>by have:=hT _ (jL ht);omega,by omega,fun k hk=>?_,fun t ht l hl=>?_,fun k=>(h.cap hi k).up,fun t ht x hx=>?_⟩
 ·obtain ⟨-,-,v,e⟩:=(h.c i hi).2 k hk
  rw [e];exact nM v
 ·obtain ⟨-,w,hw,g2⟩:=(hG t (by omega)).1 l hl
  rw [g2];exact Q9 hw
 ·have:=h.prt hi hj t ht x hx
  exact ⟨this.1,fun hq=>(this.2 hq).up⟩
end
/-! ### The common denominator -/
def I9:Nat→(Nat→Nat)→Nat
 | 0,_=>1
 | n+1,f=>I9 n f*f n
theorem Ll {f:Nat→Nat} : ∀ {n:Nat},(∀ i,i<n→0<f i)→0<I9 n f
 | 0,_=>Nat.zero_lt_one
 | n+1,h=>Nat.mul_pos (Ll fun i hi=>h i (by omega)) (h n (by omega))
theorem Lm {f:Nat→Nat} {i:Nat} : ∀ {n:Nat},i<n→f i ∣ I9 n f
 | 0,h=>by omega
 | n+1,h=>by
  unfold I9
  by_cases e:i=n
  ·subst e;exact Nat.dvd_mul_left _ _
  ·exact Nat.dvd_trans (Lm (by omega:i<n)) (Nat.dvd_mul_right _ _)
theorem Ja {f:Nat→Nat} {k:Nat} : ∀ {n:Nat},(∀ i,i<n→f i≤k)→I9 n f≤k ^ n
 | 0,_=>Nat.le_refl 1
 | n+1,h=>by
  unfold I9
  rw [Nat.pow_succ]
  exact Nat.mul_le_mul (Ja fun i hi=>h i (by omega)) (h n (by omega))
theorem Vg {a b:Nat} (h:(a:Rat)≤(b:Rat)):a≤b:=Rat.natCast_le_natCast.mp h
theorem adC {A n:Nat} {U:Rat} {t:dA} (h:uM (fun q=>jm A q∧0≤q∧q≤U) n t):aU t≤(t.length:Rat)*U:=by
 induction t with
 | nil =>
  show (0:Rat)≤_
  have:(([]:dA).length:Rat)=0:=rfl
  rw [this];grind
 | cons p t ih =>
  have h1:=ih fun q hq=>h q (by simp [hq])
  have h2:=(h p (by simp)).2.2.2
  rw [List.length_cons,Rat.natCast_add]
  show p.2+aU t≤_
  have:((1:Nat):Rat)=1:=rfl
  grind
theorem Xt {n k:Nat} {l:iH} {m:Rat} (h:xU (fun q=>jm 60 q∧0≤q∧q≤30) n l) (h0:0≤m) (hk:dO l≤k) (h1:1≤k):yR 60 l m≤1800*k:=by
 unfold yR
 split
 ·next hf =>
  have ht:=je hf
  have h2:=adC (h _ ht)
  have h3:=yJ ht
  obtain ⟨e,-⟩:=U6 (A:=60) (by decide) (zK (h.D _ ht)) (xW h0 hf)
  generalize aU (ix l (fF l m))=s at *
  refine Vg ?_
  have e60:((60:Nat):Rat)=60:=rfl
  have e18:((1800:Nat):Rat)=1800:=rfl
  have h4:((ix l (fF l m)).length:Rat)≤(k:Rat):=Rat.natCast_le_natCast.mpr (by omega)
  rw [Rat.natCast_mul,e18]
  rw [e60] at e
  generalize nuA 60 s=u at *
  grind
 ·omega
theorem Xu {n k:Nat} {m:Rat} {e:iG} (h:ED 60 30 n e) (h0:0≤m) (h1:1≤k) : ∀ {l:List (List Nat×iH)},(∀ p∈l,p∈e.ps∧dO p.2≤k)→ZI 60 e m l≤(1800*k) ^ l.length
 | [],_=>Nat.le_refl 1
 | p::l,hl=>by
  unfold ZI
  rw [List.length_cons,Nat.pow_succ,Nat.mul_comm]
  exact Nat.mul_le_mul (Xu h h0 h1 fun q hq=>hl q (by simp [hq])) (Xt (h.ps p (hl p (by simp)).1) (vN h.nn h0 p) (hl p (by simp)).2 h1)
theorem tK (a:Nat):(Int.ofNat a=Int.negSucc 0)=False:=by simp
set_option maxRecDepth 10000 in
theorem ano {σ:St} (hW:WF σ) {p p' : Nat→Prop} {x1 x2 x3 C Av tv:B} {cs:List C5} {a:eU} (hC:nS p σ.h C cs) (hT:fE p' σ.h tv a) (h1:x1.kn=true) (h2:x2.kn=true) (h3:x3.kn=true) (h4:Av.kn=true) {A:Nat} (hA:Eb A) (hO:adt A cs a) :
  aT EN 93 [.agg [x1,x2,x3,C,Av],.agg [tv]] σ fun r σ'=>(∃ mv lv,r = .agg [mv,lv]∧U2 (fun b=>σ.ah≤b∧b<σ'.ah) σ'.h mv (jE a)∧sH (fun b=>σ.ah≤b∧b<σ'.ah) σ'.h lv (nK cs a).2)∧Fr σ σ':=by
 refine dh (oP.o _ _) oP.h ?_
 unfold oP
 dsimp only
 have hCk:=dw.kn hC
 have ZN:=hT.kn
 have Q5:=dw.len hC
 have anp:=hT.len
 have hnc:=hO.nc
 have hna:=hO.na
 have hFr:=Fr.refl hW
 have hPc:=akB hA.1
 simp (maxSteps:=9^9) (disch:=first|assumption|decide|omega) only [go_sem,z3,h1,h2,h3,hCk,h4,ZN]
 refine aT.st (Fr σ) (fr) fun hF1=>?_
 refine (ZJ hF1.wf (hT.fr hW hF1) (by omega) hO.nf).mono ?_
 rintro _ σ1 ⟨⟨mv,rfl,hM⟩,hf1⟩
 have hF:=hF1.trans hf1
 have hle1:σ.ah+1+1≤σ1.ah:=Nat.le_trans (by show _≤σ.ah+1+1+1;omega) hf1.le
 have hle2:σ.ah+1+1+1≤σ1.ah:=hf1.le
 have hM:uI σ1.h mv (tu a).length (fun i=>[.int .i64 (ix (tu a) i)]) 1 3 (σ.ah+1+1+1) σ1.ah:=hM
 have q0:σ1.h σ.ah=some ⟨[x1,x2,x3,C,Av],none⟩:=hf1.get hF1.wf ((ak _ _ _ _ (by omega)).trans ((ak _ _ _ _ (by omega)).trans (au _ _ _)))
 have q1:σ1.h (σ.ah+1)=some ⟨[tv],none⟩:=hf1.get hF1.wf ((ak _ _ _ _ (by omega)).trans (au _ _ _))
 have q2:σ1.h (σ.ah+1+1)=some ⟨[.aW,.aW],none⟩:=hf1.get hF1.wf (au _ _ _)
 have hMk:=hM.kn
 have apE:=Fr.refl hF.wf
 simp (maxSteps:=9^9) (disch:=first|assumption|decide|omega) only [go_sem,z3,hMk,aA q0,h1,h2,h3,hCk,h4,Q5]
 refine bY.mono (Q:=fun ex tm σ'=>ex = .exit 0∧Tr.aj tm 3 = .c (.ptr (σ.ah+1) 0)∧Tr.aj tm 4 = .c (.ptr (σ.ah+1+1) 0)∧Tr.aj tm 5 = .c (.ptr σ1.ah 0)∧Tr.aj tm 6 = .c (.sl (σ1.ah+1) 0 cs.length (.ex cs.length))∧σ'.h σ1.ah=some ⟨[mv,.aW],none⟩∧σ'.h (σ1.ah+1)=some ⟨eP cs.length (lsS cs a 0).1,none⟩∧Fr σ1 σ'∧σ1.ah+1+1≤σ'.ah)
  (aP (fun q tm σ'=>∃ k,q=cs.length - k∧k≤cs.length∧Tr.aj tm 3 = .c (.ptr (σ.ah+1) 0)∧Tr.aj tm 4 = .c (.ptr (σ.ah+1+1) 0)∧Tr.aj tm 5 = .c (.ptr σ1.ah 0)∧Tr.aj tm 6 = .c (.sl (σ1.ah+1) 0 cs.length (.ex cs.length))∧Tr.aj tm 26 = .c C∧Tr.aj tm 27 = .c (.int .i64 (.ofNat cs.length))∧Tr.aj tm 28 = .c (.int .i64 (.ofNat k))
   ∧ σ'.h σ1.ah=some ⟨[mv,.aW],none⟩∧σ'.h (σ1.ah+1)=some ⟨eP cs.length (fun i=>if i<k then (ix cs i).a.q else 0),none⟩∧Fr σ1 σ'∧σ1.ah+1+1≤σ'.ah) cs.length ?_ ?_) ?_
 ·refine ⟨0,by omega,by omega,?_⟩
  simp (maxSteps:=9^9) (disch:=first|assumption|decide|omega) only [go_sem,z3,true_and]
  refine ⟨?_,fr,by omega⟩
  congr 2
 ·rintro q tm σ' ⟨k,rfl,hk,t3,t4,t5,t6,t26,t27,t28,p5,p6,hf,hnx⟩
  have hle:=hf.le
  simp (maxSteps:=9^9) (disch:=first|assumption|decide|omega) only [go_sem,z3,t3,t4,t5,t6,t26,t27,t28,aV]
  refine aK (fun hlt=>?_) (fun hlt=>?_)
  ·obtain ⟨b5,o5,c5,rfl,-,dM⟩:=dw.pos hC (by omega)
   have dM:=(hF.trans hf).ld hW (dM k hlt)
   unfold c5B at dM
   have hfit:=yH (hO.fc k hlt) (by decide)
   have hz:=Sz.zero.two
   have hraw:rq (ix cs k).a.n (ix cs k).a.s (ix cs k).a.d=(ix cs k).a.q:=rfl
   simp (maxSteps:=9^9) (disch:=first|assumption|decide|omega) only [go_sem,z3,t3,t4,t5,t6,t26,t27,t28,dM,hfit,hz,hraw,Rat.add_zero,bP p6,p6]
   refine ⟨cs.length - (k+1),by omega,k+1,rfl,by omega,rfl,p5,?_,fr,by omega⟩
   exact congrArg (fun l=>some (Bk.mk l none)) (uN cs.length k fun i=>(ix cs i).a.q)
  ·have:k=cs.length:=by omega
   subst this
   simp (maxSteps:=9^9) (disch:=first|assumption|decide|omega) only [go_sem,z3,true_and]
   refine ⟨t3,t4,t5,t6,p5,?_,hf,hnx⟩
   rw [p6]
   congr 2
   exact gW fun i hi=>if_pos hi
 rintro _ tm σ2 ⟨rfl,t3,t4,t5,t6,p5,p6,hf2,hnx2⟩
 have hF2:=hF.trans hf2
 have q1:=hf2.get hF.wf q1
 have q2:=hf2.get hF.wf q2
 have hle3:=hf2.le
 simp (maxSteps:=9^9) (disch:=first|assumption|decide|omega) only [go_sem,z3,t3,t4,t5,t6,aA q1,ZN,anp]
 refine bY.mono (Q:=fun ex tm σ'=>ex = .exit 2∧∃ lb U,Tr.aj tm 4 = .c (.ptr (σ.ah+1+1) 0)∧Tr.aj tm 5 = .c (.ptr σ1.ah 0)∧Tr.aj tm 6 = .c (.sl (σ1.ah+1) 0 cs.length (.ex cs.length))∧σ'.h σ1.ah=some ⟨[mv,aN a.length lb],none⟩∧σ'.h (σ1.ah+1)=some ⟨eP cs.length (lsA cs a).1,none⟩∧Va U (fun i=>ix (nK cs a).2 i) σ'.h lb a.length σ2.ah σ'.ah∧fG [σ1.ah,σ1.ah+1] σ2 σ')
  (aP (fun q tm σ'=>∃ j lb U,q=a.length - j∧j≤a.length∧Tr.aj tm 4 = .c (.ptr (σ.ah+1+1) 0)∧Tr.aj tm 5 = .c (.ptr σ1.ah 0)∧Tr.aj tm 6 = .c (.sl (σ1.ah+1) 0 cs.length (.ex cs.length))∧Tr.aj tm 42 = .c tv∧Tr.aj tm 43 = .c (.int .i64 (.ofNat a.length))∧Tr.aj tm 44 = .c (.int .i64 (.ofNat j))
   ∧ σ'.h σ1.ah=some ⟨[mv,aN j lb],none⟩∧σ'.h (σ1.ah+1)=some ⟨eP cs.length (lsS cs a j).1,none⟩∧Va U (fun i=>ix (nK cs a).2 i) σ'.h lb j σ2.ah σ'.ah∧fG [σ1.ah,σ1.ah+1] σ2 σ') a.length ?_ ?_) ?_
 ·refine ⟨0,σ2.ah,fun _=>.aW,by omega,by omega,?_⟩
  simp (maxSteps:=9^9) (disch:=first|assumption|decide|omega) only [go_sem,z3,t4,t5,t6,true_and]
  exact ⟨p5,p6,NF.nil (Oh _ _),fG.refl hf2.wf⟩
 ·rintro q tm σ' ⟨j,lb,U,rfl,hj,t4,t5,t6,t42,t43,t44,p5,p6,hN,hf⟩
  have hle:=hf.le
  simp (maxSteps:=9^9) (disch:=first|assumption|decide|omega) only [go_sem,z3,t4,t5,t6,t42,t43,t44,aV]
  refine aK (fun hlt=>?_) (fun hlt=>?_)
  ·obtain ⟨b6,o6,c6,rfl,P1,lI,hP1⟩:=hT.at hlt
   have hb6:=hW.iK lI
   have lI:=hf.ld hf2.wf (by simp;omega) (hF2.ld hW lI)
   have aoX:=dw.kn hP1
   have QH:=dw.len hP1
   have hnt:=hO.nt j hlt
   have hfp:=hO.fp j hlt
   have hpp:=hO.p _ (jL hlt)
   have hS:=adr (cs:=cs) hlt
   have hS2:=Oi (cs:=cs) (a:=a) (i:=j) (Nat.lt_succ_self j) hlt
   have hL:ix (nK cs a).2 j=(vP (lsS cs a j).1 (ix a j) (ix a j).length).2:=by
    unfold nK
    rw [← BI]
    have h9:=vS cs a a.length (Nat.le_refl _)
    show ix ((lsS cs a a.length).2 ++ [_]) j=_
    rw [eY _ _ (by omega)]
    exact Oi hlt (Nat.le_refl _)
   have hSP:=akD hPc hO.c hO.p j
   clear hS2
   generalize (lsS cs a j).1=f at *
   generalize ix a j=r at *
   simp (maxSteps:=9^9) (disch:=first|assumption|decide|omega) only [go_sem,z3,t4,t5,t6,t42,t43,t44,lI,aoX,QH]
   refine bY.mono (Q:=fun ex tm σ4=>ex = .exit 4∧∃ bs,Tr.aj tm 4 = .c (.ptr (σ.ah+1+1) 0)∧Tr.aj tm 5 = .c (.ptr σ1.ah 0)∧Tr.aj tm 6 = .c (.sl (σ1.ah+1) 0 cs.length (.ex cs.length))∧Tr.aj tm 11 = .c (.ptr σ'.ah 0)∧Tr.aj tm 42 = .c (.sl b6 o6 a.length c6)∧Tr.aj tm 43 = .c (.int .i64 (.ofNat a.length))∧Tr.aj tm 44 = .c (.int .i64 (.ofNat j))
     ∧ σ4.h (σ1.ah+1)=some ⟨eP cs.length (vP f r r.length).1,none⟩∧TS σ4 σ'.ah bs (vP f r r.length).2∧fG [σ1.ah+1] σ' σ4)
    (aP (fun q tm σ4=>∃ l bs,q=r.length - l∧l≤r.length∧Tr.aj tm 4 = .c (.ptr (σ.ah+1+1) 0)∧Tr.aj tm 5 = .c (.ptr σ1.ah 0)∧Tr.aj tm 6 = .c (.sl (σ1.ah+1) 0 cs.length (.ex cs.length))∧Tr.aj tm 11 = .c (.ptr σ'.ah 0)∧Tr.aj tm 42 = .c (.sl b6 o6 a.length c6)∧Tr.aj tm 43 = .c (.int .i64 (.ofNat a.length))∧Tr.aj tm 44 = .c (.int .i64 (.ofNat j))∧Tr.aj tm 48 = .c P1∧Tr.aj tm 49 = .c (.int .i64 (.ofNat r.length))∧Tr.aj tm 50 = .c (.int .i64 (.ofNat l))
     ∧ σ4.h (σ1.ah+1)=some ⟨eP cs.length (vP f r l).1,none⟩∧TS σ4 σ'.ah bs (vP f r l).2∧fG [σ1.ah+1] σ' σ4) r.length ?_ ?_) ?_
   ·refine ⟨0,σ'.ah+1,by omega,by omega,?_⟩
    have wI:=Fr.refl hf.wf
    simp (maxSteps:=9^9) (disch:=first|assumption|decide|omega) only [go_sem,z3,t4,t5,t6,t42,t43,t44,true_and]
    refine ⟨?_,⟨?_,rfl,Nat.lt_succ_self _,.inl rfl⟩,Fr.ex (fr) _⟩
    ·exact p6
    ·rw [au];rfl
   ·rintro q tm σ4 ⟨l,bs,rfl,hl,t4,t5,t6,t11,t42,t43,t44,t48,t49,t50,p64,RN,hf4⟩
    have I4:=hf4.le
    have anq:=RN.lt hf4.wf
    simp (maxSteps:=9^9) (disch:=first|assumption|decide|omega) only [go_sem,z3,t4,t5,t6,t11,t42,t43,t44,t48,t49,t50,aV]
    refine aK (fun adE=>?_) (fun adE=>?_)
    ·obtain ⟨b7,o7,c7,rfl,-,uO⟩:=dw.pos hP1 (by omega)
     have uO:=uO l adE
     have hb7:=hW.iK uO
     have uO:=hf4.ld hf.wf (by simp;omega) (hf.ld hf2.wf (by simp;omega) (hF2.ld hW uO))
     unfold Ip at uO
     have hfit:=yH (hfp l adE) (by decide)
     have hz:=Sz.zero.two
     have hx:=hpp _ (jL adE)
     have hok:=akC hPc hSP hpp l
     have hsz:=Oj hA hok.2 (by rw [Fe f r l hl];omega)
     have hll:=Fe f r l hl
     have hsucc:=QY (f:=f) adE
     have hraw:rq (ix r l).a.n (ix r l).a.s (ix r l).a.d=(ix r l).a.q:=rfl
     have hkl : ∀ b,b<σ'.ah→b<σ4.ah:=fun b hb=>Nat.lt_of_lt_of_le hb I4
     have apl:=hf4.wf.lt p64
     by_cases hk1:(ix r l).k=Int.negSucc 0
     ·have hS1:vP f r (l+1)=((vP f r l).1,(vP f r l).2 ++ [(Int.negSucc 0,(ix r l).a.q)]):=by
       rw [hsucc]
       unfold ZH
       rw [if_pos (show (ix r l).k = -1 from hk1)];rfl
      have hqz:=IZ hA (hx.2 (.inl hk1))
      have adF:=Fr.refl hf4.wf
      simp (maxSteps:=9^9) (disch:=first|assumption|decide|omega) only [go_sem,z3,t4,t5,t6,t11,t42,t43,t44,t48,t49,t50,uO,hk1,hfit,hz,hraw,Rat.add_zero]
      refine aT.st (Fr σ4) (fr) fun oq=>?_
      have akM:=RN.fr hf4.wf oq
      refine (U9 oq.wf akM (by omega) _ _ hsz hqz).mono ?_
      rintro _ σ6 ⟨⟨bs',adG⟩,hlo,hW6,DF⟩
      have DF:σ4.ah+1≤σ6.ah:=DF
      simp (maxSteps:=9^9) (disch:=first|assumption|decide|omega) only [go_sem,z3,t4,t5,t6,t11,t42,t43,t44,t48,t49,t50]
      refine ⟨r.length - (l+1),by omega,l+1,bs',rfl,by omega,rfl,?_,?_,?_⟩
      ·rw [hS1,hlo _ (by omega),oq.old _ (by omega)];exact p64
      ·rw [hS1];exact adG
      ·exact ⟨by omega,hW6,fun b hb hn=>by rw [hlo b hb,oq.old b (by omega)];exact hf4.old b hb hn⟩
     ·obtain ⟨kk,hkk,hkn⟩ : ∃ kk:Nat,(ix r l).k=Int.ofNat kk∧kk<cs.length:=by
       rcases hx.1 with h|⟨ha,hb⟩
       ·exact absurd h hk1
       ·exact ⟨(ix r l).k.toNat,(Int.toNat_of_nonneg ha).symm,by omega⟩
      have adF:=Fr.refl hf4.wf
      have hcz:=IZ hA (hok.1 kk)
      have hcz2:=hcz.two
      have hxc:=hx.2
      have fin : ∀ (cq:Rat) {s5:St},Sz cq→(vP f r (l+1))=(aI (vP f r l).1 kk ((vP f r l).1 kk - cq),(vP f r l).2 ++ [(Int.ofNat kk,cq)])→fG [σ1.ah+1] σ4 s5→s5.h (σ1.ah+1)=some ⟨eP cs.length (aI (vP f r l).1 kk ((vP f r l).1 kk - cq)),none⟩→∀ {K:V→St→Prop},(∀ v σ6 bs',σ6.h (σ1.ah+1)=some ⟨eP cs.length (vP f r (l+1)).1,none⟩→TS σ6 σ'.ah bs' (vP f r (l+1)).2→fG [σ1.ah+1] σ' σ6→K v σ6) →
        aT EN 92 [.c (.ptr σ'.ah 0),.c (.int .i64 (.ofNat kk)),.agg [.bool (rn cq),.str (rs cq),.str (rd cq)]] s5 K:=fun cq s5 hcq hS1 oq h5 K hK=>by
       have akM:=RN.fre hf4.wf oq (by simp;omega)
       refine (U9 oq.wf akM (by omega) _ _ hsz hcq).mono ?_
       rintro v σ6 ⟨⟨bs',adG⟩,hlo,hW6,DF⟩
       have IJ:=oq.le
       refine hK v σ6 bs' ?_ (by rw [hS1];exact adG) ⟨by omega,hW6,fun b hb hn=>?_⟩
       ·rw [hlo _ (by omega),h5,hS1]
       ·rw [hlo b hb,oq.old b (by omega) hn];exact hf4.old b hb hn
      by_cases hb:(ix r l).b=true
      ·have hS1:vP f r (l+1)=(aI (vP f r l).1 kk ((vP f r l).1 kk - mF ((vP f r l).1 kk) (ix r l).a.q),(vP f r l).2 ++ [(Int.ofNat kk,mF ((vP f r l).1 kk) (ix r l).a.q)]):=by
        rw [hsucc,adq (show ¬ (ix r l).k = -1 from hk1) hkk,hb]
        rfl
       have hmz:=IZ hA (hPc.min _ _ (hok.1 kk) (hx.2 (.inr hb)))
       simp (maxSteps:=9^9) (disch:=first|assumption|decide|omega) only [go_sem,z3,t4,t5,t6,t11,t42,t43,t44,t48,t49,t50,uO,hkk,tK,hb,hfit,hcz2,hraw,akE,aA p64,bP p64,p64]
       refine fin _ hmz hS1 (by have hFe:=fG.refl (ex:=[σ1.ah+1]) hf4.wf;repeat (first|assumption|exact fG.refl (by assumption)|exact fG.up (by assumption) (by first|omega|(dsimp only;omega))|exact fG.up (fG.refl (by assumption)) (by first|omega|(dsimp only;omega))|refine fG.set1 ?_ (by first|(left;omega)|(left;dsimp only;omega)|(right;simp)) (by first|omega|(dsimp only;omega))|refine fG.yN ?_ (by first|(left;omega)|(left;dsimp only;omega)|(right;simp))|refine fG.Ik ?_ (by first|(left;omega)|(left;dsimp only;omega)|(right;simp))|refine fG.ND ?_ (by first|omega|(dsimp only;omega)))) (au _ _ _) fun v σ6 bs' h1 h2 h3=>?_
       simp (maxSteps:=9^9) (disch:=first|assumption|decide|omega) only [go_sem,z3,t4,t5,t6,t11,t42,t43,t44,t48,t49,t50]
       exact ⟨r.length - (l+1),by omega,l+1,bs',rfl,by omega,rfl,h1,h2,h3⟩
      ·have hb:(ix r l).b=false:=by simpa using hb
       have hS1:vP f r (l+1)=(aI (vP f r l).1 kk ((vP f r l).1 kk - (vP f r l).1 kk),(vP f r l).2 ++ [(Int.ofNat kk,(vP f r l).1 kk)]):=by
        rw [hsucc,adq (show ¬ (ix r l).k = -1 from hk1) hkk,hb]
        rfl
       simp (maxSteps:=9^9) (disch:=first|assumption|decide|omega) only [go_sem,z3,t4,t5,t6,t11,t42,t43,t44,t48,t49,t50,uO,hkk,tK,hb,hfit,hcz2,hraw,aA p64,bP p64,p64]
       refine fin _ hcz hS1 (by have hFe:=fG.refl (ex:=[σ1.ah+1]) hf4.wf;repeat (first|assumption|exact fG.refl (by assumption)|exact fG.up (by assumption) (by first|omega|(dsimp only;omega))|exact fG.up (fG.refl (by assumption)) (by first|omega|(dsimp only;omega))|refine fG.set1 ?_ (by first|(left;omega)|(left;dsimp only;omega)|(right;simp)) (by first|omega|(dsimp only;omega))|refine fG.yN ?_ (by first|(left;omega)|(left;dsimp only;omega)|(right;simp))|refine fG.Ik ?_ (by first|(left;omega)|(left;dsimp only;omega)|(right;simp))|refine fG.ND ?_ (by first|omega|(dsimp only;omega)))) (au _ _ _) fun v σ6 bs' h1 h2 h3=>?_
       simp (maxSteps:=9^9) (disch:=first|assumption|decide|omega) only [go_sem,z3,t4,t5,t6,t11,t42,t43,t44,t48,t49,t50]
       exact ⟨r.length - (l+1),by omega,l+1,bs',rfl,by omega,rfl,h1,h2,h3⟩
    ·have:l=r.length:=by omega
     subst this
     simp (maxSteps:=9^9) (disch:=first|assumption|decide|omega) only [go_sem,z3,true_and]
     exact ⟨bs,t4,t5,t6,t11,t42,t43,t44,p64,RN,hf4⟩
   ·rintro _ tm σ4 ⟨rfl,bs,t4,t5,t6,t11,t42,t43,t44,p64,RN,hf4⟩
    have I4:=hf4.le
    have hlb:=hN.l1
    have anr:=hN.l2
    have anq:=RN.lt hf4.wf
    have apG:fG [σ1.ah,σ1.ah+1] σ2 σ4:=hf.to' hf4 (by simp)
    have p54:=hf4.get hf.wf (by simp) p5
    have hN4:=NF.mono hN (fun j _=>Og _ _ j) (fun b h1 h2=>hf4.old b h2 (by simp;omega)) (Nat.le_refl _)
    have hg4:=hN4.g
    have hLG:=Oh U fun i=>ix (nK cs a).2 i
    have Lj:=RN.b
    unfold jr at Lj
    simp (maxSteps:=9^9) (disch:=first|assumption|decide|omega) only [go_sem,z3,t4,t5,t6,t11,t42,t43,t44,aA p54,aA Lj,p54,hg4,hMk]
    refine ⟨a.length - (j+1),by omega,j+1,σ4.ah+1,aI U j (aN (vP f r r.length).2.length bs),rfl,by omega,rfl,rfl,by rw [p64,hS],?_,?_⟩
    ·refine hN.push (U:=U) hf4.wf hL RN (Nat.le_refl _) (by omega) (fun b h1 h2=>hf4.old b h2 (by simp;omega)) (by omega) (by omega) ?_ fun c h1 h2 h3=>?_
     ·rw [ak _ _ _ _ (by omega),au];rfl
     ·rw [ak _ _ _ _ (by omega),ak _ _ _ _ (by omega),gJ _ _ _ _ h3,ak _ _ _ _ (by omega)]
    ·repeat (first|assumption|exact fG.refl (by assumption)|exact fG.up (by assumption) (by first|omega|(dsimp only;omega))|exact fG.up (fG.refl (by assumption)) (by first|omega|(dsimp only;omega))|refine fG.set1 ?_ (by first|(left;omega)|(left;dsimp only;omega)|(right;simp)) (by first|omega|(dsimp only;omega))|refine fG.yN ?_ (by first|(left;omega)|(left;dsimp only;omega)|(right;simp))|refine fG.Ik ?_ (by first|(left;omega)|(left;dsimp only;omega)|(right;simp))|refine fG.ND ?_ (by first|omega|(dsimp only;omega)))
  ·have:j=a.length:=by omega
   subst this
   simp (maxSteps:=9^9) (disch:=first|assumption|decide|omega) only [go_sem,z3,true_and]
   exact ⟨lb,U,t4,t5,t6,p5,by rw [← BI];exact p6,hN,hf⟩
 rintro _ tm σ3 ⟨rfl,lb,U,t4,t5,t6,p5,p6,hN,hf3⟩
 have hF3:Fr σ σ3:=hf3.to hF2 (by simp;omega)
 have I4:=hf3.le
 have q23:=hf3.get hf2.wf (by simp;omega) q2
 have hP : ∀ t∈a,∀ x∈t,x.k = -1∨0≤x.k∧x.k<cs.length:=fun t ht x hx=>(hO.p t ht x hx).1
 have hM3:uI σ3.h mv (jE a).length (fun i=>[JK (jE a) i]) 1 3 (σ.ah+1+1+1) σ1.ah:=by
  rw [QW]
  refine uI.congr (uI.mono hM (fun b h1 h2=>?_) (Nat.le_refl _) (Nat.le_refl _)) fun i hi=>by rw [agL hP hi]
  rw [hf3.old b (by omega) (by simp;omega),hf2.old b h2]
 have hMl:=hM3.len
 have hMm:U2 (fun b=>σ.ah+1+1+1≤b∧b<σ1.ah) σ3.h mv (jE a):=uI.hlp hM3 (fun _=>rfl) (by decide) (fun _ _=>rfl) fun b h1 h2=>⟨h1,h2⟩
 have hml:=IY hP
 have apI:=Fr.refl hF3.wf
 have apJ:=hF3.wf.lt p6
 have hAc:=(adi (n:=cs.length) hPc hO.c hO.p).1
 simp (maxSteps:=9^9) (disch:=first|assumption|decide|omega) only [go_sem,z3,t4,t5,t6,aA p5,hMk,hMl]
 refine bY.mono (Q:=fun ex tm σ4=>ex = .exit 6∧∃ bs,Tr.aj tm 4 = .c (.ptr (σ.ah+1+1) 0)∧Tr.aj tm 5 = .c (.ptr σ1.ah 0)∧Tr.aj tm 15 = .c (.ptr σ3.ah 0)∧TS σ4 σ3.ah bs (tH (jE a) (lsA cs a).1)∧Fr σ3 σ4)
  (aP (fun q tm σ4=>∃ i bs,q=(jE a).length - i∧i≤(jE a).length∧Tr.aj tm 4 = .c (.ptr (σ.ah+1+1) 0)∧Tr.aj tm 5 = .c (.ptr σ1.ah 0)∧Tr.aj tm 6 = .c (.sl (σ1.ah+1) 0 cs.length (.ex cs.length))∧Tr.aj tm 15 = .c (.ptr σ3.ah 0)∧Tr.aj tm 97 = .c mv∧Tr.aj tm 98 = .c (.int .i64 (.ofNat (jE a).length))∧Tr.aj tm 99 = .c (.int .i64 (.ofNat i))∧TS σ4 σ3.ah bs (tH ((jE a).take i) (lsA cs a).1)∧Fr σ3 σ4) (jE a).length ?_ ?_) ?_
 ·refine ⟨0,σ3.ah+1,by omega,by omega,?_⟩
  simp (maxSteps:=9^9) (disch:=first|assumption|decide|omega) only [go_sem,z3,t4,t5,t6,true_and]
  exact ⟨⟨au _ _ _,rfl,Nat.lt_succ_self _,.inl rfl⟩,fr⟩
 ·rintro q tm σ4 ⟨i,bs,rfl,hi,t4,t5,t6,t15,t97,t98,t99,RN,hf4⟩
  have IJ:=hf4.le
  simp (maxSteps:=9^9) (disch:=first|assumption|decide|omega) only [go_sem,z3,t4,t5,t6,t15,t97,t98,t99,aV]
  refine aK (fun hlt=>?_) (fun hlt=>?_)
  ·obtain ⟨b8,o8,c8,rfl,Jb⟩:=(hMm.hc).pos (by omega)
   have Jb:=hf4.ld hF3.wf (Jb i hlt)
   unfold JK at Jb
   have hmi:=jL hlt
   have hin:ix (jE a) i<cs.length:=by
    have h1:=(qU hP).mp hmi
    have:=nT hP ((ix (jE a) i:Nat):Int) (oh.mpr ⟨by omega,h1⟩)
    omega
   have p64:=hf4.get hF3.wf p6
   have hll:(tH ((jE a).take i) (lsA cs a).1).length=i:=by unfold tH;rw [List.length_map,List.length_take];omega
   have hsz:Sz (aU (tH ((jE a).take i) (lsA cs a).1)):=Oj (n:=cs.length) hA (fun p hp=>by
    obtain ⟨k,hk,rfl⟩:=List.mem_map.mp hp
    have h1:=(qU hP).mp (List.mem_of_mem_take hk)
    exact ⟨.inr (nT hP k (oh.mpr ⟨by omega,h1⟩)),hAc k⟩) (by omega)
   have hcz:=IZ hA (hAc (ix (jE a) i))
   simp (maxSteps:=9^9) (disch:=first|assumption|decide|omega) only [go_sem,z3,t4,t5,t6,t15,t97,t98,t99,Jb,aA p64]
   refine (U9 hf4.wf RN (by omega) _ _ hsz hcz).mono ?_
   rintro _ σ6 ⟨⟨bs',adG⟩,hlo,hW6,DF⟩
   simp (maxSteps:=9^9) (disch:=first|assumption|decide|omega) only [go_sem,z3,t4,t5,t6,t15,t97,t98,t99]
   refine ⟨(jE a).length - (i+1),by omega,i+1,bs',rfl,by omega,rfl,by rw [ZK _ _ hlt];exact adG,by omega,hW6,fun b hb=>by rw [hlo b hb];exact hf4.old b hb⟩
  ·have:i=(jE a).length:=by omega
   subst this
   simp (maxSteps:=9^9) (disch:=first|assumption|decide|omega) only [go_sem,z3,true_and]
   exact ⟨bs,t4,t5,t15,by rw [List.take_length] at RN;exact RN,hf4⟩
 rintro _ tm σ4 ⟨rfl,bs,t4,t5,t15,RN,hf4⟩
 have IJ:=hf4.le
 have hlb:=hN.l1
 have anr:=hN.l2
 have anq:=RN.lt hf4.wf
 have p54:=hf4.get hF3.wf p5
 have q24:=hf4.get hF3.wf q23
 have hN4:=NF.mono hN (fun j _=>Og _ _ j) (fun b h1 h2=>hf4.old b h2) (Nat.le_refl _)
 have hg4:=hN4.g
 have hLG:=Oh U fun i=>ix (nK cs a).2 i
 have Lj:=RN.b
 have hL:ix (nK cs a).2 a.length=tH (jE a) (lsA cs a).1:=by
  have h9:=vS cs a a.length (Nat.le_refl _)
  rw [BI] at h9
  unfold nK
  conv=>lhs;rw [← h9]
  exact fA _ _
 have yP:=hF3.trans hf4
 unfold jr at Lj
 simp (maxSteps:=9^9) (disch:=first|assumption|decide|omega) only [go_sem,z3,t4,t5,t15,aA p54,aA Lj,p54,hg4,hMk,bP q24,q24]
 have hN5:=hN.push (U:=U) (n':=σ4.ah+1+1) (nx:=σ4.ah+1) hf4.wf hL RN (Nat.le_refl _) (by omega) (fun b h1 h2=>hf4.old b h2) (by omega) (by omega) (h':=hset (hset (hset (yN a.length (hset σ4.h σ4.ah ⟨[aN (tH (jE a) (lsA cs a).1).length bs,.bool (rn (aU (tH (jE a) (lsA cs a).1))),.str (rs (aU (tH (jE a) (lsA cs a).1))),.str (rd (aU (tH (jE a) (lsA cs a).1)))],none⟩) lb) (σ4.ah+1) ⟨bC a.length (QX U fun i=>ix (nK cs a).2 i) ++ [aN (tH (jE a) (lsA cs a).1).length bs,.bool (rn (aU (tH (jE a) (lsA cs a).1))),.str (rs (aU (tH (jE a) (lsA cs a).1))),.str (rd (aU (tH (jE a) (lsA cs a).1)))],some (4,156)⟩) σ1.ah ⟨[mv,.sl (σ4.ah+1) 0 (a.length+1) .opn],none⟩) (σ.ah+1+1) ⟨[mv,.sl (σ4.ah+1) 0 (a.length+1) .opn],none⟩)
  (by rw [ak _ _ _ _ (by omega),ak _ _ _ _ (by omega),au];rfl) (fun c h1 h2 h3=>by rw [ak _ _ _ _ (by omega),ak _ _ _ _ (by omega),ak _ _ _ _ (by omega),gJ _ _ _ _ h3,ak _ _ _ _ (by omega)])
 have hll:(nK cs a).2.length=a.length+1:=by
  have h9:=vS cs a a.length (Nat.le_refl _)
  rw [BI] at h9
  unfold nK
  show ((lsA cs a).2 ++ [_]).length=_
  rw [List.length_append,h9];rfl
 refine ⟨⟨_,_,rfl,?_,?_⟩,fr⟩
 ·refine dw.keep hMm (fun b hb=>?_) fun b hb=>⟨by omega,by show b<σ4.ah+1+1;omega⟩
  rw [ak _ _ _ _ (by omega),ak _ _ _ _ (by omega),ak _ _ _ _ (by omega),gJ _ _ _ _ (by omega),ak _ _ _ _ (by omega),hf4.old b (by omega)]
 ·exact (hN5.akA hll fun i _=>rfl).keep (fun _ _=>rfl) fun b hb=>⟨by omega,hb.2⟩
def rkG (cs:List C5) (bs:Nat→Nat) (k r:Nat):List B:=jr (aN (yQ cs r k).length (bs r)) (aU (yQ cs r k))
structure RkS (σ:St) (rb:Nat) (bs:Nat→Nat) (cs:List C5) (k lo:Nat):Prop where
 b:σ.h rb=some ⟨bC 8 (rkG cs bs k),none⟩
 o : ∀ r,r<8→IK σ.h (bs r) (yQ cs r k)
 l : ∀ r,r<8→(yQ cs r k).length=0∨lo≤bs r∧bs r<σ.ah
 i : ∀ r r',r<8→r' < 8→r≠r'→(yQ cs r k).length=0∨(yQ cs r' k).length=0∨bs r≠bs r'
theorem RkS.on {σ σ' : St} {rb lo k:Nat} {bs:Nat→Nat} {cs:List C5} (h:RkS σ rb bs cs k lo) (hrb:σ'.h rb=σ.h rb) (hf : ∀ b,lo≤b→b<σ.ah→σ'.h b=σ.h b) (hle:σ.ah≤σ'.ah):RkS σ' rb bs cs k lo:=by
 refine ⟨by rw [hrb];exact h.b,fun r hr=>?_,fun r hr=>by have:=h.l r hr;omega,h.i⟩
 refine (pV ?_).trans (h.o r hr)
 rcases h.l r hr with h1|h1
 ·exact .inl h1
 ·exact .inr (hf _ h1.1 h1.2)
theorem RkS.fr {σ σ' : St} {rb lo k:Nat} {bs:Nat→Nat} {cs:List C5} (h:RkS σ rb bs cs k lo) (hrb:rb<σ.ah) (hf:Fr σ σ'):RkS σ' rb bs cs k lo:=h.on (hf.old _ hrb) (fun b _ hb=>hf.old b hb) hf.le
theorem akN {σ:St} (hW:WF σ) {rb lo k r:Nat} {bs:Nat→Nat} {cs:List C5} (h:RkS σ rb bs cs k lo) (hrb:rb<lo) (hlo:lo≤σ.ah) (hr:r<8) (hk:(ix cs k).r=(r:Int)) (hk1:k≤1000000) (hs:Sz (aU (yQ cs r k))) (hq:Sz (ix cs k).a.q) :
  aT EN 92 [.c (.ptr rb (r*4)),.c (.int .i64 (.ofNat k)),.agg [.bool (rn (ix cs k).a.q),.str (rs (ix cs k).a.q),.str (rd (ix cs k).a.q)]] σ fun _ σ'=>(∃ bs',RkS σ' rb bs' cs (k+1) lo)∧(∀ b,b<σ.ah→b≠rb→(yQ cs r k).length=0∨b≠bs r→σ'.h b=σ.h b)∧WF σ'∧σ.ah≤σ'.ah:=by
 have hl:=h.l r hr
 have hlen:=Fg cs r k
 obtain ⟨b0,hb0,hb1⟩ : ∃ b0,(∀ c,aN (yQ cs r k).length c=aN (yQ cs r k).length b0∨c≠bs r)∧((yQ cs r k).length=0∧b0=rb∨0<(yQ cs r k).length∧b0=bs r):=by
  by_cases e:(yQ cs r k).length=0
  ·exact ⟨rb,fun c=>.inl (by rw [e];rfl),.inl ⟨e,rfl⟩⟩
  ·exact ⟨bs r,fun c=>by
    by_cases e:c=bs r
    ·exact .inl (by rw [e])
    ·exact .inr e,.inr ⟨by omega,rfl⟩⟩
 have hT:IK σ.h b0 (yQ cs r k):=by
  have:=h.o r hr
  unfold IK at this ⊢
  rw [← this]
  rcases hb1 with ⟨e,-⟩|⟨-,e⟩
  ·rw [e];rfl
  ·rw [e]
 have hGr:rkG cs bs k r=jr (aN (yQ cs r k).length b0) (aU (yQ cs r k)):=by
  unfold rkG
  rw [(hb0 (bs r)).resolve_right (fun h=>h rfl)]
 refine (adg hW h.b hr (fun _=>rfl) rfl rfl hGr hT (by omega) (by omega) (by omega) k _ hs hq).mono ?_
 rintro _ σ' ⟨nx,h1,h2,h3,h4,h5⟩
 have hle:=h5.le
 have e1:yQ cs r (k+1)=yQ cs r k ++ [((k:Int),(ix cs k).a.q)]:=by
  show yQ cs r k ++ _=_
  rw [if_pos hk]
 have e2 : ∀ r',r'≠r→yQ cs r' (k+1)=yQ cs r' k:=fun r' hne=>by
  show yQ cs r' k ++ _=_
  rw [if_neg (by omega),List.append_nil]
 refine ⟨⟨aI bs r nx,?_,fun r' hr'=>?_,fun r' hr'=>?_,fun a b ha hb hab=>?_⟩,fun b hb hne hn2=>h5.old b hb ?_,h5.wf,hle⟩
 ·rw [h3]
  congr 2
  refine dB fun r' hr'=>?_
  unfold iT rkG
  by_cases e:r' = r
  ·subst e
   rw [if_pos rfl,aG,e1,Lc,List.length_append];rfl
  ·rw [if_neg e,aH _ _ _ _ e,e2 r' e]
 ·by_cases e:r' = r
  ·subst e
   rw [aG,e1]
   unfold IK
   rw [List.length_append,List.length_singleton]
   show σ'.h nx=some _
   rw [h4,jg]
   congr 2
   refine dB fun j hj=>?_
   unfold iT
   split
   ·next e=>rw [e,fA]
   ·rw [eY _ _ (by omega)]
  ·rw [aH _ _ _ _ e,e2 r' e]
   refine (pV ?_).trans (h.o r' hr')
   have h6:=h.l r' hr'
   have h7:=h.i r' r hr' hr e
   by_cases e0:(yQ cs r' k).length=0
   ·exact .inl e0
   ·refine .inr (h5.old _ (by omega) ?_)
    simp;omega
 ·by_cases e:r' = r
  ·subst e;rw [aG];omega
  ·rw [aH _ _ _ _ e,e2 r' e]
   have:=h.l r' hr';omega
 ·by_cases ea:a=r
  ·subst ea
   rw [aG,aH _ _ _ _ (Ne.symm hab),e2 b (Ne.symm hab)]
   have:=h.l b hb;omega
  ·by_cases eb:b=r
   ·subst eb
    rw [aG,aH _ _ _ _ ea,e2 a ea]
    have:=h.l a ha;omega
   ·rw [aH _ _ _ _ ea,aH _ _ _ _ eb,e2 a ea,e2 b eb]
    exact h.i a b ha hb hab
 ·simp;omega
theorem RkS.akA {σ:St} {rb lo:Nat} {bs:Nat→Nat} {cs:List C5} (h:RkS σ rb bs cs cs.length lo) {p:Nat→Prop} (hp:p rb) (hp2 : ∀ b,lo≤b→b<σ.ah→p b):sH p σ.h (.sl rb 0 8 (.ex 8)) (Xl cs cs.length):=by
 have hix : ∀ r,r<8→ix (Xl cs cs.length) r=yQ cs r cs.length:=fun r hr=>by
  unfold Xl
  rw [QS _ (by rw [List.length_range];exact hr),dV (by rw [List.length_range];exact hr),List.getElem_range]
 have h8:(Xl cs cs.length).length=8:=by unfold Xl;rw [List.length_map];rfl
 refine ⟨fun r=>aN (yQ cs r cs.length).length (bs r),?_,Nat.le_refl 8,fun r hr=>?_⟩
 ·rw [h8]
  refine (iM (G:=rkG cs bs cs.length) _ h.b rfl hp (fun _=>rfl) (by decide) fun r hr=>?_).congr fun r hr=>by unfold rkG;rw [hix r hr]
  unfold rkG jr
  simp only [List.all_cons,List.all_nil,vI,zC,EU,Bool.and_self]
 ·rw [h8] at hr
  rw [hix r hr]
  exact (h.o r hr).hlp (by rcases h.l r hr with h1|h1;exact .inl h1;exact .inr (hp2 _ h1.1 h1.2))
structure adH (A:Nat) (e:oU):Prop where
 nc:e.c.length≤1000
 na:e.a.length≤1000
 r : ∀ k,k<e.c.length→∃ r:Nat,r<8∧(ix e.c k).r=Int.ofNat r
 fc : ∀ k,k<e.c.length→(ix e.c k).a.fits 1000000
 c : ∀ k,BH A (ix e.c k).a.q
 a : ∀ j,j<e.a.length→adt A e.c (ix e.a j)
def oz (e:oU) (k:Nat):Rat:=aC k fun i=>(ix e.c i).a.q
theorem Om {A:Nat} {f:Nat→Rat} (hf : ∀ i,BH A (f i)) : ∀ n,jm A (aC n f)∧0≤aC n f∧aC n f≤(n:Rat)*uQ
 | 0=>⟨jm.zero A,Rat.le_refl,by show (0:Rat)≤((0:Nat):Rat)*uQ;have:((0:Nat):Rat)=0:=rfl;grind⟩
 | n+1=>by
  obtain ⟨h1,h2,h3⟩:=Om hf n
  have h4:=hf n
  rw [Rat.natCast_add]
  have:((1:Nat):Rat)=1:=rfl
  refine ⟨h1.add h4.1,?_,?_⟩
  ·show 0≤aC n f+f n;grind
  ·show aC n f+f n≤_;grind
theorem akO {A:Nat} (hA:Eb A) {f:Nat→Rat} (hf : ∀ i,BH A (f i)) {n:Nat} (hn:n≤10000):Sz (aC n f):=by
 obtain ⟨h1,h2,h3⟩:=Om hf n
 have hU:=xY (k:=10000) (by decide)
 have h4:(n:Rat)≤((10000:Nat):Rat):=Rat.natCast_le_natCast.mpr hn
 have h5:=Rat.mul_le_mul_of_nonneg_right h4 BF
 exact (mW hA (Nat.dvd_refl A) h1 h2 (by grind)).sz hA (by have:=tJ;omega)
/-! ### apm of one's own -/
def Xv (M L:Nat→B) (cs:List C5) (al:List eU) (p:Nat→Prop) (h:Tr Bk) (j:Nat):Prop:=U2 p h (M j) (jE (ix al j))∧sH p h (L j) (nK cs (ix al j)).2
abbrev ahU (M L:Nat→B) (cs:List C5) (al:List eU) (h:Tr Bk) (b n lo hi:Nat):Prop:=NF (Xv M L cs al) h b n (fun j=>[M j,L j]) 2 159 lo hi
theorem Fh (M L:Nat→B) (cs:List C5) (al:List eU) (j:Nat):QK (Xv M L cs al) j:=fun _ _ _ _ hp hk hq=>⟨dw.keep hp.1 hk hq,hp.2.keep hk hq⟩
theorem Vh (M L:Nat→B):LG (fun j=>[M j,L j]) 2:=fun _=>rfl
end Go.Proofs.Xe
