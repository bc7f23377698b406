/- Groups of Af as flows: rates, how ang one can go, what is still to come. -/
import Derived.Test.YtjonjhcaniinaaaGreatDoorZ38
import Derived.Test.YtjonjhcaniinaaaGreatDoorZ36
set_option linter.all false
set_option maxHeartbeats 8000000
namespace Go.Proofs.Xe
open Go.RowKit Go.Proofs.Ins
/-! ### Yz -/
theorem ags {a d:Nat} (hd:1≤d) (h6:d≤6) (ha:a≤30) : ∃ k:Nat,k≤1800∧((a:Int):Rat)/((d:Int):Rat)=((k:Int):Rat)/((60:Nat):Rat):=by
 have key : ∀ p q:Int,q*p=60→((a:Int):Rat)/(p:Rat)=((a:Int):Rat)*(q:Rat)/60:=fun p q h=>by
  have h2:(q:Rat)*(p:Rat)=60:=by rw [← Rat.intCast_mul,h];rfl
  have h3:(p:Rat)≠0:=fun e=>by rw [e,Rat.mul_zero] at h2;exact absurd h2 jj
  grind
 refine ⟨a*(60/d),Nat.mul_le_mul ha (Nat.div_le_self 60 d),?_⟩
 have e60:((60:Nat):Rat)=60:=rfl
 have e1:((a*(60/d):Nat):Int)=(a:Int)*((60/d:Nat):Int):=Int.natCast_mul ..
 rw [e60,e1,Rat.intCast_mul]
 refine key _ _ ?_
 have:d=1∨d=2∨d=3∨d=4∨d=5∨d=6:=jb
 rcases this with rfl|rfl|rfl|rfl|rfl|rfl <;> rfl
theorem Ls {a:Nat} (ha:a≤30) : ∃ k:Nat,k≤1800∧((a:Int):Rat)=((k:Int):Rat)/((60:Nat):Rat):=by
 obtain ⟨k,h2,h3⟩:=ags (a:=a) (d:=1) jj jj ha
 refine ⟨k,h2,?_⟩
 rw [← h3]
 have e:(((1:Nat):Int):Rat)=1:=rfl
 rw [e];grind
theorem an6 (x:Nat) : ∃ k:Nat,k≤1800∧amt x=((k:Int):Rat)/((60:Nat):Rat):=by
 by_cases h0:x%5=0
 ·rw [Yx h0];exact ags jb jb jb
 ·by_cases h1:x%5=1
  ·rw [ac6 h1];exact Ls jb
  ·rw [ac7 h0 h1];exact Ls jb
abbrev lQ (A:Nat) (U:Rat) (q:Rat):Prop:=dY A q∧0≤q∧q≤U
theorem agt {A:Nat} {U:Rat} (hU:0≤U):MO (lQ A U) where
 min:=fun a b ha hb=>by unfold jW;split <;> assumption
 sub:=fun a b ha hb=>by
  have h1:=ha.2;have h2:=hb.2
  unfold jW;split
  ·rw [show a - a=0 by grind];exact ⟨dY.zero A,Rat.le_refl,hU⟩
  ·exact ⟨ha.1.sub hb.1,by grind,by grind⟩
 zero:=⟨dY.zero A,Rat.le_refl,hU⟩
theorem agu {q:Rat} (h : ∃ k:Nat,k≤1800∧q=((k:Int):Rat)/((60:Nat):Rat)):lQ 60 30 q:=by
 obtain ⟨k,hk,e⟩:=h
 refine ⟨⟨k,e⟩,?_⟩
 have e60:((60:Nat):Rat)=60:=rfl
 have h1:(0:Rat)≤((k:Int):Rat):=Rat.intCast_nonneg.mpr (Int.natCast_nonneg k)
 have h2:((k:Int):Rat)≤((1800:Int):Rat):=Rat.intCast_le_intCast.mpr jb
 have e3:((1800:Int):Rat)=1800:=rfl
 rw [e60] at e
 rw [e3] at h2
 constructor <;> grind
theorem rY (x:Nat):lQ 60 30 (amt x):=agu (an6 x)
theorem D8 {q:Rat} (h:0≤q) : ¬ sg q<0:=by
 rcases qg q with ⟨h1,h2⟩|⟨h1,h2⟩|⟨h1,h2⟩
 ·exfalso;grind
 ·rw [h1];decide
 ·rw [h1];decide
theorem asX {k a b:Nat} (h:k≤256 ^ a) (hab:a≤b):k≤256 ^ b:=Nat.le_trans h (Nat.pow_le_pow_right jj hab)
theorem asY:(30:Rat)≤uQ:=by
 have h:((30:Nat):Rat)≤uQ:=by
  unfold uQ
  exact Rat.natCast_le_natCast.mpr (asX (a:=1) (b:=900) jj jj)
 exact h
theorem lQ.up {A:Nat} {q:Rat} (h:lQ A 30 q):DV A q:=⟨h.1,h.2.1,Rat.le_trans h.2.2 asY⟩
/-! ### What ZR builds -/
structure BG (n:Nat) (m:Nat→Rat) (cl:Nat→List C5) (al:Nat→List fK) (dl:List oV):Prop where
 n0:0<n
 n4:n≤4
 mm : ∀ i,i<n→∃ v,m i=amt v
 c : ∀ i,i<n→(cl i).length≤6∧∀ k,k<(cl i).length→AV n i (ix (cl i) k)
 a : ∀ i,i<n→DZ (cl i).length (al i)
 d:dl.length≤3∧∀ j,j<dl.length→(ix dl j).l.length≤4∧∃ v,(ix dl j).w=uo (amt v)
 dg : ∀ j,j<dl.length→LGf (jc n m cl al) (dl.take j) (ix dl j).l
theorem agv {al:List fK} {k:Nat} {c:Int} (h:afr (al.take k) c):lV al k c=false:=by
 unfold lV
 rw [List.any_eq_false]
 intro a ha hm
 obtain ⟨j,hj,rfl⟩:=List.getElem_of_mem ha
 rw [← dZ hj] at hm
 obtain ⟨t,ht,hm⟩:=Y6.mp hm
 obtain ⟨p,hp,e⟩:=Y5.mp hm
 exact h j hj t ht p hp e
theorem Ya {nc:Nat} {al:List fK} {k:Nat} {x:x9} (h:Om nc (al.take k) x):rQ nc (lV al k) x=0:=by
 obtain ⟨h1,w,hw,e⟩:=h
 have hq : ¬ sg x.a.q<0:=D8 (by rw [e,CQ];exact Rat.intCast_nonneg.mpr (Int.natCast_nonneg w))
 unfold rQ
 rcases h1 with ⟨h1,h2⟩|⟨i,hi,h1,h2⟩
 ·rw [if_neg jb,if_neg (fun h=>by rw [h2] at h;cases h.2),if_neg (fun h=>hq h.2),if_neg (fun h=>h.1 h1)]
 ·rw [if_neg jb,if_neg (fun h=>jb),if_neg (fun h=>hq h.2),if_neg (fun h=>by rw [agv h2] at h;cases h.2)]
theorem Yb {nc:Nat} (hn:nc≤6) {al:List fK} (h:DZ nc al) {k:Nat} (hk:k<al.length):uD nc (lV al k) (ix al k)=0:=by
 obtain ⟨h3,ht⟩:=h.2 k hk
 unfold uD
 rw [if_neg (fun e=>by rw [uY.mpr ⟨jb,fun i hi=>by have:=(ht i jb).2;omega⟩] at e;cases e)]
 refine eF fun t htl=>?_
 unfold aiH
 exact eF fun p hp=>Ya ((ht t jb).1 p hp)
theorem acf {n i nc:Nat} (hn4:n≤4) {q:Rat} (hq:0≤q) {cs:List C5} {al:List fK} (hc:cs.length≤6∧∀ k,k<cs.length→AV n i (ix cs k)) (ha:DZ cs.length al):lH ⟨uo q,cs,al⟩=0:=by
 have h1:=hc.1
 have h2:=ha.1
 have e:mD (fun k=>oJ (ix cs k)) cs.length=0:=eF fun k hk=>by
  obtain ⟨g1,⟨r,hr,g2⟩,v,g3⟩:=hc.2 k hk
  unfold oJ
  rw [if_neg (by rcases g1 with g1|⟨j,hj,-,g1⟩ <;> omega),if_neg jb,if_neg (D8 (by rw [g3,CQ];exact (rY v).2.1))]
 unfold lH
 dsimp only
 rw [if_neg jb,if_neg (D8 (by rw [CQ];exact hq)),if_neg (fun h=>h e)]
 exact eF fun k hk=>Yb h1 ha hk
theorem an7 {x y:Ins.Lg} (h1:x.e=y.e) (h2:x.k=y.k):x=y:=by
 obtain ⟨a,b⟩:=x
 obtain ⟨c,d⟩:=y
 cases h1;cases h2;rfl
section
variable {n:Nat} {m:Nat→Rat} {cl:Nat→List C5} {al:Nat→List fK} {dl:List oV} {i:Nat}
theorem BG.leg (h:BG n m cl al dl) {d:Nat} (hd:d<dl.length) {k:Nat} (hk:k<(ix dl d).l.length):nM ⟨jc n m cl al,dl⟩ d k=0:=by
 obtain ⟨hv,hr,nd⟩:=h.dg d hd
 obtain ⟨e,c,hx,h1,h2,h3,h4,-⟩:=hr _ (jQ hk)
 obtain ⟨-,-,-,-,-,-,h5,-⟩:=hr _ (jQ (l:=(ix dl d).l) (i:=0) jb)
 have hne : ∀ y∈iM dl d k,¬ (y.e=Int.ofNat e∧y.k=Int.ofNat c):=fun y hy=>by
  rcases List.mem_append.mp hy with hy|hy
  ·obtain ⟨D,hD,hy⟩:=List.mem_flatMap.mp hy
   obtain ⟨j,hj,rfl⟩:=List.getElem_of_mem hD
   rw [← dZ hj] at hy
   obtain ⟨t,ht,rfl⟩:=List.getElem_of_mem hy
   rw [← dZ ht]
   exact h3 j hj t ht
  ·rintro ⟨e1,e2⟩
   obtain ⟨k2,hk2,rfl⟩:=List.getElem_of_mem hy
   have hk3:k2<k:=by rw [List.length_take] at hk2;omega
   rw [List.nodup_iff_pairwise_ne,List.pairwise_iff_getElem] at nd
   have:=nd k2 k jb hk hk3
   rw [List.getElem_take] at e1 e2
   rw [← dZ hk,hx] at this
   exact this (an7 e1 e2)
 have hlen:(jc n m cl al).length=n:=ni ..
 unfold nM
 dsimp only
 rw [hlen] at h1 ⊢
 rw [h4,h5,hx]
 have e1:((Int.ofNat e).toNat)=e:=rfl
 have e2:Int.ofNat e=(e:Int):=rfl
 have e3:Int.ofNat c=(c:Int):=rfl
 dsimp only
 rw [e1]
 rw [if_neg (by rw [e2,e3];omega),if_neg (fun hh=>by
  unfold sZ at hh
  obtain ⟨y,hy,e⟩:=List.any_eq_true.mp hh
  rw [Bool.and_eq_true] at e
  exact hne y hy ⟨by simpa using e.1,by simpa using e.2⟩),if_neg (fun hh=>hh rfl)]
theorem BG.zero (h:BG n m cl al dl):qO ⟨jc n m cl al,dl⟩=0:=by
 have hlen:(jc n m cl al).length=n:=ni ..
 have hn:=h.n4
 have hd:=h.d.1
 have e1:mD (fun i=>lH (ix (jc n m cl al) i)) n=0:=eF fun i hi=>by
  rw [sN m cl al hi]
  obtain ⟨v,e⟩:=h.mm i hi
  exact acf (nc:=0) hn (by rw [e];exact (rY v).2.1) (h.c i hi) (h.a i hi)
 have e2:mD (fun i=>mD (mF ⟨jc n m cl al,dl⟩ i) (ix (jc n m cl al) i).c.length) n=0:=eF fun i hi=>eF fun k hk=>by
  unfold mF
  dsimp only
  rw [sN m cl al hi] at hk ⊢
  rw [hlen]
  obtain ⟨g1,-⟩:=(h.c i hi).2 k hk
  dsimp only
  rw [if_neg]
  rcases g1 with g1|⟨j,hj,hji,g1⟩
  ·rw [g1];omega
  ·rw [g1];omega
 unfold qO
 dsimp only
 rw [hlen,if_neg jb,if_neg (fun h=>h e1),if_neg (fun h=>h e2)]
 refine eF fun d hd=>?_
 unfold vM
 dsimp only
 obtain ⟨h1,v,h2⟩:=h.d.2 d hd
 rw [if_neg jb,if_neg (D8 (by rw [h2,CQ];exact (rY v).2.1))]
 exact eF fun k hk=>h.leg hd hk
/-! ### Numbers -/
theorem BG.cap (h:BG n m cl al dl) (hi:i<n) (k:Nat):lQ 60 30 (ix (cl i) k).a.q:=by
 by_cases hk:k<(cl i).length
 ·obtain ⟨-,-,v,e⟩:=(h.c i hi).2 k hk
  rw [e,CQ];exact rY v
 ·rw [afD jb]
  show lQ 60 30 (default:R3).q
  rw [R3.akE];exact (agt jj).zero
theorem BG.prt (h:BG n m cl al dl) (hi:i<n) {j:Nat} (hj:j<(al i).length) : ∀ t∈ix (al i) j,∀ x∈t,MP (lQ 60 30) (cl i).length x:=fun t ht x hx=>by
 obtain ⟨h3,hT⟩:=(h.a i hi).2 j hj
 obtain ⟨a,ha,rfl⟩:=List.getElem_of_mem ht
 rw [← dZ ha] at hx
 obtain ⟨p,hp,rfl⟩:=List.getElem_of_mem hx
 rw [← dZ hp]
 obtain ⟨g1,w,hw,g2⟩:=(hT a jb).1 p hp
 refine ⟨?_,fun _=>by rw [g2,CQ];exact agu (Ls jb)⟩
 rcases g1 with ⟨g1,-⟩|⟨c,hc,g1,-⟩
 ·exact .inl g1
 ·exact .inr jb
theorem BG.ed (h:BG n m cl al dl) (hi:i<n):ED 60 30 (cl i).length (kK ⟨uo (m i),cl i,al i⟩):=by
 refine ⟨fun t ht=>?_,fun p hp=>?_⟩
 ·obtain ⟨r,-,rfl⟩:=Ig.mp ht
  intro p hp
  have:=KI (P:=lQ 60 30) (fun k _=>h.cap hi k) r _ jp p hp
  exact ⟨.inr this.1,this.2⟩
 ·obtain ⟨a,ha,rfl⟩:=List.mem_map.mp hp
  obtain ⟨j,hj,rfl⟩:=List.getElem_of_mem ha
  have hj:j<(al i).length:=hj
  show zA _ _ (pJ (cl i) (al i)[j]).2
  rw [← dZ hj]
  exact Zz (P:=lQ 60 30) (agt jj) (h.cap hi) (h.prt hi hj)
theorem ED.up {A n:Nat} {e:iq} (h:ED A 30 n e):ED A uQ n e :=
 ⟨fun t ht p hp=>⟨(h.rk t ht p hp).1,lQ.up (h.rk t ht p hp).2⟩,fun q hq t ht p hp=>⟨(h.ps q hq t ht p hp).1,lQ.up (h.ps q hq t ht p hp).2⟩⟩
/-! ### ajl -/
theorem Lu {k:Nat} : ∀ {l:gZ},(∀ t∈l,t.length≤k)→dI l≤l.length*k
 | [],_=>Nat.zero_le _
 | t::l,h=>by
  have:=Lu (l:=l) fun u hu=>h u (by simp [hu])
  have:=h t kc
  unfold dI
  rw [List.length_cons,Nat.succ_mul];omega
theorem y9 {α:Type} {k:Nat} : ∀ {l:List (List α)},(∀ t∈l,t.length≤k)→l.flatten.length≤l.length*k
 | [],_=>Nat.zero_le _
 | t::l,h=>by
  have:=y9 (l:=l) fun u hu=>h u (by simp [hu])
  have:=h t kc
  rw [List.flatten_cons,List.length_append,List.length_cons,Nat.succ_mul];omega
theorem BG.tl (h:BG n m cl al dl) (hi:i<n) {j:Nat} (hj:j<(al i).length):(ix (al i) j).length=3∧∀ t∈ix (al i) j,t.length≤7:=by
 obtain ⟨h3,hT⟩:=(h.a i hi).2 j hj
 refine ⟨h3,fun t ht=>?_⟩
 obtain ⟨a,ha,rfl⟩:=List.getElem_of_mem ht
 rw [← dZ ha]
 have:=(hT a jb).2
 have:=(h.c i hi).1
 omega
theorem ajI {cs:List C5} {a:fK} {k:Nat} (ha : ∀ t∈a,t.length≤k):(lsA cs a).2.length=a.length∧∀ t∈(lsA cs a).2,t.length≤k:=by
 rw [← DW]
 have hl:=xM cs a a.length jp
 refine ⟨hl,fun t ht=>?_⟩
 obtain ⟨j,hj,rfl⟩:=List.getElem_of_mem ht
 rw [← dZ hj,QI jb jp,Ii _ _ _ jp]
 exact ha _ (jQ jb)
theorem BG.eb (h:BG n m cl al dl) (hi:i<n):EB (cl i).length (kK ⟨uo (m i),cl i,al i⟩)∧dI (kK ⟨uo (m i),cl i,al i⟩).rk≤48∧(kK ⟨uo (m i),cl i,al i⟩).ps.length≤2∧∀ p∈(kK ⟨uo (m i),cl i,al i⟩).ps,dI p.2≤28:=by
 have hc:=(h.c i hi).1
 have ha:=(h.a i hi).1
 have hr8:(Zy (cl i) (cl i).length).length=8:=by unfold Zy;rw [List.length_map];rfl
 have hrk:dI (Zy (cl i) (cl i).length)≤8*6:=by
  rw [← hr8]
  refine Lu fun t ht=>?_
  obtain ⟨r,-,rfl⟩:=Ig.mp ht
  exact Nat.le_trans (Ij _ _ _) hc
 have hps : ∀ p∈(al i).map (pJ (cl i)),p.2.length=4∧dI p.2≤28∧p.1.length≤6∧∀ k∈p.1,k<(cl i).length:=fun p hp=>by
  obtain ⟨a,ha,rfl⟩:=List.mem_map.mp hp
  obtain ⟨j,hj,rfl⟩:=List.getElem_of_mem ha
  rw [← dZ hj]
  obtain ⟨h3,hT⟩:=h.tl hi hj
  obtain ⟨l1,l2⟩:=ajI (cs:=cl i) hT
  have hP : ∀ t∈ix (al i) j,∀ x∈t,x.k = -1∨0≤x.k∧x.k<(cl i).length:=fun t ht x hx=>(h.prt hi hj t ht x hx).1
  have hm:=KQ hP
  have h4:(pJ (cl i) (ix (al i) j)).2.length=4:=by
   unfold pJ
   show ((lsA _ _).2 ++ [_]).length=4
   rw [List.length_append,l1,h3];rfl
  refine ⟨h4,?_,by show (jY _).length≤6;omega,fun k hk=>?_⟩
  ·have:=Lu (k:=7) (l:=(pJ (cl i) (ix (al i) j)).2) fun t ht=>by
    rcases List.mem_append.mp (show t∈(lsA (cl i) (ix (al i) j)).2 ++ [vT (jY (ix (al i) j)) (lsA (cl i) (ix (al i) j)).1] from ht) with ht|ht
    ·exact l2 t ht
    ·rw [List.mem_singleton] at ht
     rw [ht]
     unfold vT
     rw [List.length_map];omega
   rw [h4] at this
   omega
  ·have h1:=(tY hP).mp hk
   have:=pY hP k (qC.mpr ⟨jb,h1⟩)
   omega
 refine ⟨⟨jb,by show 0<(Zy (cl i) (cl i).length).length;omega,by show (Zy (cl i) (cl i).length).length≤1000;omega,by show dI (Zy (cl i) (cl i).length)≤1000;omega,by show ((al i).map _).length≤1000;rw [List.length_map];omega,fun p hp=>?_,fun p hp=>?_⟩,hrk,by show ((al i).map _).length≤2;rw [List.length_map];exact ha,fun p hp=>(hps p hp).2.1⟩
 ·have:=hps p hp
  exact ⟨jb,this.2.2.2⟩
 ·have:=hps p hp
  omega
theorem pO (x:Nat):(uo (amt x)).fits 1000000:=RS ((abP x).mono jb)
theorem U9 {w:Nat} (h:w≤16):(uo ((Int.ofNat w:Int):Rat)).fits 1000000:=RS ((DN (k:=3) (by show w<16777216;omega) jj).mono jb)
theorem BG.lay (h:BG n m cl al dl) (hi:i<n) {j:Nat} (hj:j<(al i).length):afJ 60 (cl i) (ix (al i) j):=by
 have hc:=(h.c i hi).1
 obtain ⟨h3,hT⟩:=h.tl hi hj
 have hG:=((h.a i hi).2 j hj).2
 have hf:=y9 hT
 refine ⟨jb,jb,fun t ht=>by have:=hT _ (jQ ht);omega,jb,fun k hk=>?_,fun t ht l hl=>?_,fun k=>(h.cap hi k).up,fun t ht x hx=>?_⟩
 ·obtain ⟨-,-,v,e⟩:=(h.c i hi).2 k hk
  rw [e];exact pO v
 ·obtain ⟨-,w,hw,g2⟩:=(hG t jb).1 l hl
  rw [g2];exact U9 hw
 ·have:=h.prt hi hj t ht x hx
  exact ⟨this.1,fun hq=>(this.2 hq).up⟩
end
/-! ### The common denominator -/
def LC:Nat→(Nat→Nat)→Nat
 | 0,_=>1
 | n+1,f=>LC n f*f n
theorem Ou {f:Nat→Nat} : ∀ {n:Nat},(∀ i,i<n→0<f i)→0<LC n f
 | 0,_=>Nat.zero_lt_one
 | n+1,h=>Nat.mul_pos (Ou fun i hi=>h i jb) (h n jb)
theorem Ov {f:Nat→Nat} {i:Nat} : ∀ {n:Nat},i<n→f i ∣ LC n f
 | 0,h=>jb
 | n+1,h=>by
  unfold LC
  by_cases e:i=n
  ·subst e;exact Nat.dvd_mul_left _ _
  ·exact Nat.dvd_trans (Ov (by omega:i<n)) (Nat.dvd_mul_right _ _)
theorem LH {f:Nat→Nat} {k:Nat} : ∀ {n:Nat},(∀ i,i<n→f i≤k)→LC n f≤k ^ n
 | 0,_=>Nat.le_refl 1
 | n+1,h=>by
  unfold LC
  rw [Nat.pow_succ]
  exact Nat.mul_le_mul (LH fun i hi=>h i jb) (h n jb)
theorem Yc {a b:Nat} (h:(a:Rat)≤(b:Rat)):a≤b:=Rat.natCast_le_natCast.mp h
theorem agw {A n:Nat} {U:Rat} {t:dJ} (h:wP (fun q=>dY A q∧0≤q∧q≤U) n t):aU t≤(t.length:Rat)*U:=by
 induction t with
 | nil =>
  show (0:Rat)≤_
  have:(([]:dJ).length:Rat)=0:=rfl
  rw [this];grind
 | cons p t ih =>
  have h1:=ih fun q hq=>h q (by simp [hq])
  have h2:=(h p kc).2.2.2
  rw [List.length_cons,Rat.natCast_add]
  show p.2+aU t≤_
  have:((1:Nat):Rat)=1:=rfl
  grind
theorem ZU {n k:Nat} {l:gZ} {m:Rat} (h:zA (fun q=>dY 60 q∧0≤q∧q≤30) n l) (h0:0≤m) (hk:dI l≤k) (h1:1≤k):uf 60 l m≤1800*k:=by
 unfold uf
 split
 ·next hf =>
  have ht:=iE hf
  have h2:=agw (h _ ht)
  have h3:=Ak ht
  obtain ⟨e,-⟩:=XH (A:=60) jj (zC (h.D _ ht)) (wQ h0 hf)
  generalize aU (ix l (eP l m))=s at *
  refine Yc ?_
  have e60:((60:Nat):Rat)=60:=rfl
  have e18:((1800:Nat):Rat)=1800:=rfl
  have h4:((ix l (eP l m)).length:Rat)≤(k:Rat):=Rat.natCast_le_natCast.mpr jb
  rw [Rat.natCast_mul,e18]
  rw [e60] at e
  generalize nuA 60 s=u at *
  grind
 ·omega
theorem ZV {n k:Nat} {m:Rat} {e:iq} (h:ED 60 30 n e) (h0:0≤m) (h1:1≤k) : ∀ {l:List (List Nat×gZ)},(∀ p∈l,p∈e.ps∧dI p.2≤k)→abT 60 e m l≤(1800*k) ^ l.length
 | [],_=>Nat.le_refl 1
 | p::l,hl=>by
  unfold abT
  rw [List.length_cons,Nat.pow_succ,Nat.mul_comm]
  exact Nat.mul_le_mul (ZV h h0 h1 fun q hq=>hl q (by simp [hq])) (ZU (h.ps p (hl p kc).1) (ou h.nn h0 p) (hl p kc).2 h1)
theorem Va {e:iq} (h:J9 e) (c:Nat):Aq e 0 c=0:=J7 h.rk _
theorem agx {e:iq} (h:J9 e) (c:Nat):sK e 0 c=0:=by
 have hp : ∀ p:List Nat×gZ,lJ e 0 p=0:=fun p=>kM fun c _=>Va h c
 unfold sK
 rw [Va h,kM fun p hp'=>by rw [hp p];exact J7 (h.ps p hp') _]
 split
 ·exact Rat.add_zero 0
 ·first|rfl|exact Rat.add_zero 0
theorem an8 {e:iq} {n:Nat} (h:J9 e) (hI:InE n e) {x:Rat} (hx:0≤x) {c:Nat} (hc:c<n):sK e x c≤x:=by
 have h1:=Uw (n:=n) h hI (x:=0) (y:=x) Rat.le_refl hx
 rw [dw fun c _=>agx h c] at h1
 have h2:=Gg (f:=sK e x) hc fun i _=>Xy h hx i
 grind
theorem ZW {D:Nat} {W:Rat} {q:iJ→Rat} {l:iJ} (hW:Zk D 1 W) : ∀ (t:List iJ) {Q:Rat} {K M:Nat},(∀ a∈t,Zk D 1 (q a))→Zk D K Q→K+t.length≤M→Zk D (t.length*(2*M+2)) (qX W q Q t l)
 | [],Q,K,M,_,_,_=>Zk.zero.mono (Nat.zero_le _)
 | a::t,Q,K,M,hq,hQ,hM=>by
  rw [List.length_cons] at hM
  have ha:=hq a kc
  have h1:=ZW hW t (l:=l) (K:=K+1) (M:=M) (fun b hb=>hq b (by simp [hb])) (hQ.add ha) jb
  have h2:=(((hQ.add ha).sub hW).pq).sub ((hQ.sub hW).pq)
  rw [Fj,List.length_cons,Nat.succ_mul,Nat.add_comm]
  refine Zk.add ?_ h1
  split
  ·exact h2.mono jb
  ·exact Zk.zero.mono (Nat.zero_le _)
section
variable {n:Nat} {m:Nat→Rat} {cl:Nat→List C5} {al:Nat→List fK} {dl:List oV}
def iy (n:Nat) (m:Nat→Rat) (cl:Nat→List C5) (al:Nat→List fK) (dl:List oV):gK:=⟨jc n m cl al,dl⟩
theorem vV (n:Nat) (m:Nat→Rat) (cl:Nat→List C5) (al:Nat→List fK) (dl:List oV):(iy n m cl al dl).e.length=n:=ni ..
theorem zL (m:Nat→Rat) (cl:Nat→List C5) (al:Nat→List fK) (dl:List oV) {i:Nat} (h:i<n):ix (iy n m cl al dl).e i=⟨uo (m i),cl i,al i⟩:=sN m cl al h
theorem BG.bld (h:BG n m cl al dl):afT 60 (iy n m cl al dl):=by
 have hn:=vV n m cl al dl
 have hz:=UJ h.zero
 refine ⟨by have:=h.n4;omega,by show dl.length≤1000;have:=h.d.1;omega,fun i hi=>?_,fun d hd=>?_,fun d hd k hk=>?_⟩
 ·rw [hn] at hi
  rw [zL m cl al dl hi]
  have hc:=h.c i hi
  refine ⟨by show (cl i).length≤1000;omega,by show (al i).length≤1000;have:=(h.a i hi).1;omega,fun k hk=>?_,fun k hk=>?_,fun k=>(h.cap hi k).up,fun j hj=>h.lay hi hj⟩
  ·obtain ⟨-,⟨r,h1,h2⟩,-⟩:=hc.2 k hk
   exact ⟨r,jb,h2⟩
  ·obtain ⟨-,-,v,e⟩:=hc.2 k hk
   show (ix (cl i) k).a.fits _
   rw [e];exact pO v
 ·have:=(h.d.2 d hd).1
  show (ix dl d).l.length≤1000
  omega
 ·obtain ⟨e,j,h1,h2,h3,-⟩:=(hz.l d hd).2.2 k hk
  exact ⟨e,j,h1,h2,h3⟩
theorem BG.small (h:BG n m cl al dl):vN 134217728 (iy n m cl al dl):=by
 have hn:=vV n m cl al dl
 have up : ∀ {r:R3},r.fits 1000000→r.fits 134217728:=fun h=>⟨by have:=h.1;omega,by have:=h.2;omega⟩
 refine ⟨fun i hi=>?_,fun d hd=>?_,by have:=h.n4;omega,by show dl.length≤_;have:=h.d.1;omega,fun d hd=>by show (ix dl d).l.length≤_;have:=(h.d.2 d hd).1;omega⟩
 ·rw [hn] at hi
  rw [zL m cl al dl hi]
  have hc:=h.c i hi
  have ha:=h.a i hi
  have ha1:=ha.1
  refine ⟨?_,fun k hk=>?_,fun j t p hj ht hp=>?_,by show (cl i).length≤_;omega,by show (al i).length≤_;omega,fun j hj=>by show (ix (al i) j).length≤_;have:=(h.tl hi hj).1;omega,fun j t hj ht=>?_⟩
  ·obtain ⟨v,e⟩:=h.mm i hi
   show (uo (m i)).fits _
   rw [e];exact up (pO v)
  ·obtain ⟨-,-,v,e⟩:=hc.2 k hk
   show (ix (cl i) k).a.fits _
   rw [e];exact up (pO v)
  ·exact up ((h.lay hi hj).fp t ht p hp)
  ·have:=(h.lay hi hj).nt t ht
   show (ix (ix (al i) j) t).length≤_
   omega
 ·obtain ⟨-,v,e⟩:=h.d.2 d hd
  show (ix dl d).w.fits _
  rw [e];exact up (pO v)
def bgB (B n:Nat) (g:gK) (x:Nat→Rat):Nat:=B*LC n fun i=>GN 60 (kK (ix g.e i)) (x i)
abbrev Yd (n:Nat) (g:gK) (x:Nat→Rat):Nat:=bgB 60 n g x
theorem Q7 (h:BG n m cl al dl) {i:Nat} (hi:i<n) {x:Rat} (hx:0≤x):0<GN 60 (kK (ix (iy n m cl al dl).e i)) x∧GN 60 (kK (ix (iy n m cl al dl).e i)) x≤256 ^ 6:=by
 rw [zL m cl al dl hi]
 have hE:=h.ed hi
 obtain ⟨-,h1,h2,h3⟩:=h.eb hi
 refine ⟨DT jj hE hx,?_⟩
 have a:=ZU hE.rk hx h1 jj
 have b:=ZV (k:=28) hE hx jj (l:=(kK ⟨uo (m i),cl i,al i⟩).ps) fun p hp=>⟨hp,h3 p hp⟩
 have c:(1800*28) ^ (kK ⟨uo (m i),cl i,al i⟩).ps.length≤(1800*28) ^ 2:=Nat.pow_le_pow_right jj h2
 have d:=Nat.mul_le_mul a (Nat.le_trans b c)
 exact Nat.le_trans d jj
theorem agy {B:Nat} (hB:0<B) (hB2:B≤256 ^ 100) (h:BG n m cl al dl) {x:Nat→Rat} (hx : ∀ i,i<n→0≤x i):Ae (bgB B n (iy n m cl al dl) x):=by
 refine ⟨Nat.mul_pos hB (Ou fun i hi=>(Q7 h hi (hx i hi)).1),?_⟩
 have h1:=LH (n:=n) (k:=256 ^ 6) fun i hi=>(Q7 h hi (hx i hi)).2
 have h2:(256 ^ 6) ^ n≤(256 ^ 6) ^ 4:=Nat.pow_le_pow_right jj h.n4
 have h3:(256 ^ 6) ^ 4=256 ^ 24:=by rw [← Nat.pow_mul]
 have h5:bgB B n (iy n m cl al dl) x≤256 ^ 100*256 ^ 24:=Nat.mul_le_mul hB2 (Nat.le_trans h1 (Nat.le_trans h2 (Nat.le_of_eq h3)))
 rw [← Nat.pow_add] at h5
 exact Nat.lt_of_le_of_lt h5 (Nat.pow_lt_pow_right jj jj)
theorem Ye (h:BG n m cl al dl) {x:Nat→Rat} (hx : ∀ i,i<n→0≤x i):Ae (Yd n (iy n m cl al dl) x):=agy jj jj h hx
theorem Q8 {B:Nat} {g:gK} {x:Nat→Rat} {i:Nat} (hi:i<n):B*GN 60 (kK (ix g.e i)) (x i) ∣ bgB B n g x:=Nat.mul_dvd_mul_left _ (Ov (f:=fun i=>GN 60 (kK (ix g.e i)) (x i)) hi)
theorem Iq {g:gK} {x:Nat→Rat} {i:Nat} (hi:i<n):60*GN 60 (kK (ix g.e i)) (x i) ∣ Yd n g x:=Q8 hi
def SmB (B:Nat) (x:Rat):Prop:=dY B x∧0≤x∧x≤100000
abbrev SmM (x:Rat):Prop:=SmB 60 x
theorem SmB.v {B:Nat} {x:Rat} (h:SmB B x):x≤vQ:=by
 have h1:=KL (k:=100000) jj
 have:((100000:Nat):Rat)=100000:=rfl
 have:=h.2.2
 grind
theorem akL {q:Rat} (h:lQ 60 30 q):q≤vQ:=by
 have h1:=KL (k:=30) jj
 have:((30:Nat):Rat)=30:=rfl
 have:=h.2.2
 grind
theorem BG.aq2 {B:Nat} (hB0:0<B) (h6:60 ∣ B) (hB2:B≤256 ^ 100) (h:BG n m cl al dl) {x:Nat→Rat} (hx : ∀ i,i<n→SmB B (x i)):X7 60 (bgB B n (iy n m cl al dl) x) (iy n m cl al dl) x:=by
 have hn:=vV n m cl al dl
 have hz:=UJ h.zero
 have hD:=agy hB0 hB2 h fun i hi=>(hx i hi).2.1
 have hBD:B ∣ bgB B n (iy n m cl al dl) x:=Nat.dvd_mul_right _ _
 have h60:=Nat.dvd_trans h6 hBD
 have hu:=pK
 have hB:=h.bld
 have hxZ : ∀ i,i<n→Zk (bgB B n (iy n m cl al dl) x) 1 (x i):=fun i hi=>nK hD hBD (hx i hi).1 (hx i hi).2.1 (hx i hi).v
 have hcZ : ∀ {q:Rat},lQ 60 30 q→Zk (bgB B n (iy n m cl al dl) x) 1 q:=fun hq=>nK hD h60 hq.1 hq.2.1 (akL hq)
 have hkE : ∀ i,i<n→kE (iy n m cl al dl).e i=(cl i).length:=fun i hi=>by unfold kE;rw [zL m cl al dl hi]
 have hED : ∀ i,i<n→ED 60 30 (kE (iy n m cl al dl).e i) (kK (ix (iy n m cl al dl).e i)):=fun i hi=>by rw [hkE i hi,zL m cl al dl hi];exact h.ed hi
 have hEB : ∀ i,i<n→EB (kE (iy n m cl al dl).e i) (kK (ix (iy n m cl al dl).e i)):=fun i hi=>by rw [hkE i hi,zL m cl al dl hi];exact (h.eb hi).1
 have hlE : ∀ i,i<n→J9 (kK (ix (iy n m cl al dl).e i))∧InE (kE (iy n m cl al dl).e i) (kK (ix (iy n m cl al dl).e i)):=fun i hi=>QB (hz.e i (by rw [← hn] at hi;exact hi))
 have hq : ∀ i,i<n→∀ c,c<kE (iy n m cl al dl).e i→0≤gq (fC (iy n m cl al dl)) x (i,c)∧Zk (bgB B n (iy n m cl al dl) x) 1 (gq (fC (iy n m cl al dl)) x (i,c)):=fun i hi c hc=>by
  obtain ⟨h1,h2⟩:=hlE i hi
  have h3:=Xy h1 (hx i hi).2.1 c
  have h4:=an8 h1 h2 (hx i hi).2.1 hc
  exact ⟨h3,nK hD (Q8 hi) (akD jj hB0 h6 (hED i hi) (hx i hi).1 (hx i hi).2.1 c) h3 (Rat.le_trans h4 (hx i hi).v)⟩
 have hw : ∀ d,d<dl.length→lQ 60 30 (ix dl d).w.q∧(ix dl d).w.fits 1000000:=fun d hd=>by
  obtain ⟨-,v,e⟩:=h.d.2 d hd
  rw [e,CQ]
  exact ⟨rY v,pO v⟩
 have hr : ∀ i c,Zk (bgB B n (iy n m cl al dl) x) 5000 (uj (fC (iy n m cl al dl)) x (i,c)):=fun i c=>by
  have h3:=h.d.1
  have key : ∀ j,j≤dl.length→Zk (bgB B n (iy n m cl al dl) x) (j*44) (QT (iy n m cl al dl) x j (i,c)):=fun j=>by
   induction j with
   | zero=>intro _;exact Zk.zero.mono (Nat.zero_le _)
   | succ j ih =>
    intro hj
    have hj' : j<(iy n m cl al dl).d.length:=by show j<dl.length;omega
    rw [Oo x hj',Nat.succ_mul]
    have hl:=(h.d.2 j jb).1
    have hlen:(dL (iy n m cl al dl) j).length=(ix dl j).l.length:=List.length_map _
    refine (ih jb).add ((ZW (K:=0) (M:=4) (hcZ (hw j jb).1) _ (fun a ha=>?_) Zk.zero jb).mono (by rw [hlen];omega))
    obtain ⟨y,hy,rfl⟩:=List.mem_map.mp ha
    obtain ⟨k,hk,rfl⟩:=List.getElem_of_mem hy
    rw [← dZ hk]
    obtain ⟨e,c',h1,h2,h3⟩:=hB.lg j hj' k hk
    rw [h1]
    rw [hn] at h2
    exact (hq e h2 c' h3).2
  rw [← U2]
  exact (key dl.length jp).mono (by show dl.length*44≤5000;omega)
 have hu5:=QW
 refine ⟨⟨jj,Nat.lt_of_lt_of_le (by decide:60<256 ^ 1) (Nat.pow_le_pow_right jj jj)⟩,hB,⟨⟨hD,hB.n,hB.d,fun i hi=>?_,fun i hi=>?_,fun d hd=>⟨(hw d hd).2,(hw d hd).1.2.1,hcZ (hw d hd).1⟩,fun d hd=>⟨hB.l d hd,hB.lg d hd⟩,fun i hi=>?_,fun i hi c _=>(hr i c).sz hD jb,(QC hz).nodup⟩,fun i _ c _=>hr i c,fun i hi=>?_,fun i hi c hc=>?_⟩,h.small,h.zero,fun i hi=>?_⟩
 ·rw [hn] at hi
  have hcap : ∀ k,lQ 60 30 (ix (ix (iy n m cl al dl).e i).c k).a.q:=fun k=>by rw [zL m cl al dl hi];exact h.cap hi k
  have hk6:kE (iy n m cl al dl).e i≤6:=by rw [hkE i hi];exact (h.c i hi).1
  obtain ⟨s1,s2,s3⟩:=QM (fun k=>(hcap k).up) (kE (iy n m cl al dl).e i)
  have hU:=zG (k:=10000) jj
  have h4:((kE (iy n m cl al dl).e i:Nat):Rat)≤((10000:Nat):Rat):=Rat.natCast_le_natCast.mpr jb
  have h5:=Rat.mul_le_mul_of_nonneg_right h4 DU
  have hT:Zk (bgB B n (iy n m cl al dl) x) 1 (oD (ix (iy n m cl al dl).e i) (kE (iy n m cl al dl).e i)):=nK hD h60 s1 s2 (by unfold oD;grind)
  exact ⟨ant hD h60 (hED i hi).up (hEB i hi),anu jj hB0 h6 hD (Q8 hi) (hED i hi).up (hEB i hi) (hx i hi).1 (hx i hi).2.1 (hx i hi).v,hT.sz hD jb,((hxZ i hi).sub hT).sz hD jb⟩
 ·rw [hn] at hi
  rw [hkE i hi]
  have:=(h.c i hi).1
  omega
 ·rw [hn] at hi
  exact hq i hi
 ·rw [hn] at hi
  rw [zL m cl al dl hi]
  obtain ⟨v,e⟩:=h.mm i hi
  show (uo (m i)).fits _∧Zk _ 1 (uo (m i)).q
  rw [e,CQ]
  exact ⟨pO v,hcZ (rY v)⟩
 ·rw [hn] at hi
  rw [hkE i hi] at hc
  rw [zL m cl al dl hi]
  rcases ((h.c i hi).2 c hc).1 with h1|⟨j,hj,-,h1⟩
  ·exact .inl h1
  ·exact .inr ⟨j,h1,by rw [hn];exact hj⟩
 ·rw [hn] at hi
  exact ⟨(hx i hi).2.1,(hxZ i hi).sz hD jb⟩
theorem BG.map (h:BG n m cl al dl) {x:Nat→Rat} (hx : ∀ i,i<n→SmM (x i)):X7 60 (Yd n (iy n m cl al dl) x) (iy n m cl al dl) x:=BG.aq2 jj (Nat.dvd_refl _) jj h hx
end
def GV (nl:Nat) (M:Nat→Nat) (i:Nat):Rat:=if i<nl then amt (M i) else 0
set_option maxRecDepth 10000 in
theorem Vb {σ:St} (hW:WF σ) {ev dv lv:B} {n nl:Nat} (hlen:lenV (.c ev)=some (.c (.int .i64 (.ofNat n)))) (hek:ev.kn=true) (hdk:dv.kn=true) (hn:n≤1000) (M:Nat→Nat) (hv:HL σ.h 1 lv nl fun i=>[.int .u16 (.ofNat (M i))]) (hM : ∀ i,i<nl→M i≤65535) :
  aO EN 15 [.agg [ev,dv],.c lv] σ fun r σ'=>(∃ b,r = .c (aT n b)∧NF NoQ σ'.h b n (fun i=>jl (GV nl M i)) 3 42 (σ.ah+1) σ'.ah)∧Fr σ σ':=by
 refine bF (zf.o _ _) zf.h ?_
 unfold zf
 dsimp only
 have hlv:=hv.len
 have hlk:=hv.kn
 have hL:LG (fun i=>jl (GV nl M i)) 3:=fun _=>rfl
 simp (maxSteps:=9^9) (disch:=try exact jz) only [go_sem,z3,hek,hdk,hlen]
 refine aN (fun x tm σ'=>∃ j b,x=n - j∧j≤n∧Tr.aj tm 1 = .c lv∧Tr.aj tm 5 = .c (aT j b)∧Tr.aj tm 10 = .c (.int .i64 (.ofNat n))∧Tr.aj tm 11 = .c (.int .i64 (.ofNat j))
  ∧ NF NoQ σ'.h b j (fun i=>jl (GV nl M i)) 3 42 (σ.ah+1) σ'.ah∧Fr σ σ'∧σ.ah+1≤σ'.ah) n ?_ ?_
 ·refine ⟨0,σ.ah+1,jb,jb,?_⟩
  simp (maxSteps:=9^9) (disch:=try exact jz) only [go_sem,z3,true_and]
  exact ⟨rfl,NF.nil hL,fr,jb⟩
 ·rintro x tm σ' ⟨j,b,rfl,hj,t1,t5,t10,t11,hN,hf,hnx⟩
  have hle:=hf.le
  have hg:=hN.g
  have hl1:=hN.l1
  have hl2:=hN.l2
  simp (maxSteps:=9^9) (disch:=try exact jz) only [go_sem,z3,t1,t5,t10,t11,aP]
  refine aI (fun hlt=>?_) (fun hlt=>?_)
  ·simp (maxSteps:=9^9) (disch:=try exact jz) only [go_sem,z3,t1,t5,t10,t11,hlv,aP]
   refine aI (fun h2=>?_) (fun h2=>?_)
   ·obtain ⟨bb,o,c,rfl,hld⟩:=hv.one jb
    have hld:=hf.ld hW (hld j h2)
    have hbb:=hf.wf.eU hld
    have hMi:=hM j h2
    have hq:GV nl M j=amt (M j):=if_pos h2
    have qW:=Fr.refl hf.wf
    simp (maxSteps:=9^9) (disch:=try exact jz) only [go_sem,z3,t1,t5,t10,t11,hld,hg]
    refine ⟨n - (j+1),jb,j+1,σ'.ah+1+1,rfl,jb,rfl,rfl,?_,fr,jb⟩
    refine hN.push (hi1:=σ'.ah) (h1:=σ'.h) (fun _ _=>UF _) (fun _ _ _ _ h=>h) trivial (fun _ _ _=>rfl) jp jb jb jb (aA _ _ _) ?_ (fun c h1 h2 h3=>?_) (fun _ _=>rfl) hL
    ·rw [hq];rfl
    ·rw [ak _ _ _ _ jb,gJ _ _ _ _ jb];repeat rw [ak _ _ _ _ jb]
   ·have hq:GV nl M j=0:=if_neg h2
    have qW:=Fr.refl hf.wf
    simp (maxSteps:=9^9) (disch:=try exact jz) only [go_sem,z3,t1,t5,t10,t11,hg]
    refine ⟨n - (j+1),jb,j+1,σ'.ah+1+1,rfl,jb,rfl,rfl,?_,fr,jb⟩
    refine hN.push (hi1:=σ'.ah) (h1:=σ'.h) (fun _ _=>UF _) (fun _ _ _ _ h=>h) trivial (fun _ _ _=>rfl) jp jb jb jb (aA _ _ _) ?_ (fun c h1 h2 h3=>?_) (fun _ _=>rfl) hL
    ·rw [hq];rfl
    ·rw [ak _ _ _ _ jb,gJ _ _ _ _ jb];repeat rw [ak _ _ _ _ jb]
  ·have:j=n:=jb
   subst this
   simp (maxSteps:=9^9) (disch:=try exact jz) only [go_sem,z3,t5]
   exact ⟨⟨_,rfl,hN⟩,hf⟩
def Nc (g:gK) (x:Nat→Rat) (j:Nat):Rat:=apM g j+gG g.e.length (fC g) x j
theorem ajJ {A D:Nat} {g:gK} {x:Nat→Rat} (hM:X7 A D g x) {j:Nat} (hj:j<g.e.length):Zk D (g.e.length*10001001) (Nc g x j):=by
 have hgz:=UJ hM.z
 have hRN : ∀ i,i<g.e.length→∀ c,c<kE g.e i→Zk D 5000 (apR g x i c)∧Zk D 5001 (apN g x i c):=fun i hi c hc=>by
  have h1:=hM.N.r i hi c hc
  have h2:=(hM.N.s.q i hi c hc).2
  exact ⟨h1,Zk.mono (Zk.sub h2 h1) jb⟩
 have h:=X4 (h:=Vr g) hRN (m:=apM g) (fun i hi=>(hM.N.m i hi).2) hM.N.s.k jp j
 have e:=ZM (QC hgz) (ZF hgz) x (apM g) hj
 unfold Nc
 rw [← e]
 exact h
theorem Vd (nl:Nat) (M:Nat→Nat) (i:Nat):lQ 60 30 (GV nl M i):=by
 unfold GV
 split
 ·exact rY _
 ·rw [← Lr];exact rY _
theorem lQ.sm {q:Rat} (h:lQ 60 30 q):SmM q:=⟨h.1,h.2.1,Rat.le_trans h.2.2 (by decide +kernel)⟩
theorem an9 {n:Nat} {m:Nat→Rat} {cl:Nat→List C5} {al:Nat→List fK} {dl:List oV} (h:BG n m cl al dl) {x:Nat→Rat} (hx : ∀ i,i<n→0≤x i):Yd n (iy n m cl al dl) x<256 ^ 25:=by
 have h1:=LH (n:=n) (k:=256 ^ 6) fun i hi=>(Q7 h hi (hx i hi)).2
 have h2:(256 ^ 6) ^ n≤(256 ^ 6) ^ 4:=Nat.pow_le_pow_right jj h.n4
 have h3:(256 ^ 6) ^ 4=256 ^ 24:=by rw [← Nat.pow_mul]
 have h5:Yd n (iy n m cl al dl) x≤60*256 ^ 24:=Nat.mul_le_mul_left _ (Nat.le_trans h1 (Nat.le_trans h2 (Nat.le_of_eq h3)))
 exact Nat.lt_of_le_of_lt h5 jj
structure atO (n:Nat) (x d a b:Nat→Rat):Prop where
 zx : ∀ i,i<n→Sz (x i)
 za : ∀ i,i<n→Sz (a i)
 zb : ∀ i,i<n→Sz (b i)
 zd : ∀ i,i<n→Sz (d i)
 sa : ∀ i,i≤n→Sz (aB i a)
 sb : ∀ i,i≤n→Sz (aB i b)
 sd : ∀ i,i≤n→Sz (aB i d)
 sg:Sz (aB n b - aB n a)
 le : ∀ i,i<n→a i≤b i
 lk:aB n b - aB n a≤aB n d
end Go.Proofs.Xe
namespace Go.Proofs.Ins
section
variable {n:Nat} {g:GL}
theorem aq3 (hg:Vo n g) {x:Nat→Rat} (hx:Nn n x) {j i:Nat} (hi:i<n):0≤gM n g x j i:=by
 have hgs : ∀ l:iJ,l.1<n→0≤gs g x i l:=fun l hl=>aqv hg hx hl i
 have h1:0≤aB (g.k i) (fun c=>if vS g j i c then gs g x i (i,c) else 0):=H7 fun c _=>by
  have:=hgs (i,c) hi
  split <;> grind
 have h2:0≤aF g.ds (dM g x j i):=xJ fun d hd=>by
  have hl:=fun l hl=>zy hg hd (l:=l) hl
  have a:0≤aF d.2 (gs g x i):=xJ fun l h=>hgs l (hl l h)
  have b:=afj (W:=d.1) (q:=nC n (gq g x)) (r:=nC n (gs g x i)) (fun l=>by
   unfold nC;split
   ·next h=>exact afw hg hx h
   ·exact Rat.le_refl) (fun l=>by
   unfold nC;split
   ·next h=>exact hgs l h
   ·exact Rat.le_refl) j d.2 0 0 Rat.le_refl
  have z0:mJ d.1 0 0=0:=by unfold mJ;split <;> rfl
  rw [z0,Qz j _ _ _ _ hl] at b
  have m:0≤aF d.2 (gs g x i) - mJ d.1 (aF d.2 (gq g x)) (aF d.2 (gs g x i)):=by unfold mJ;split <;> grind
  unfold dM
  split <;> grind
 unfold gM;grind
structure atP (n:Nat) (g:GL) (x d:Nat→Rat) (s:Rat):Prop where
 e : ∀ i,i<n→∀ c,c<g.k i→yx (g.e i) (x i+s*d i) c=yx (g.e i) (x i) c
 d : ∀ d'∈g.ds,okS d'.1 (gq g x) (gr g x d) s 0 0 d'.2
/-! ### How ang one can go -/
structure atQ (e:iq) (k:Nat) (x:Rat) (o:Option Rat):Prop where
 yes : ∀ y,o=some y→0<y∧(∀ s,0≤s→s≤y→∀ c,c<k→sK e (x+s) c=sK e x c+s*yx e x c)∧(∀ s,0≤s→s<y→∀ c,c<k→yx e (x+s) c=yx e x c)∧opn e (x+y)<opn e x
 no:o=none→∀ s,0≤s→∀ c,c<k→sK e (x+s) c=sK e x c∧yx e (x+s) c=0
def MQ:Nat→(Nat→Nat)→Nat
 | 0,_=>0
 | n+1,f=>MQ n f+f n
section
variable {dist:Nat→Option Rat} {x d:Nat→Rat}
end
end
end Go.Proofs.Ins
