/- fH.lay, in the dF words. -/
import Derived.Test.YtjonjhcaniinaaaGreatDoorZ29
import Derived.Test.YtjonjhcaniinaaaGreatDoorZ28
set_option linter.all false
set_option maxHeartbeats 8000000
namespace Go.Proofs.Xe
open Go.RowKit Go.Proofs.Ins
def vQ:Rat:=((256 ^ uK:Nat):Rat)
def uQ:Rat:=((256 ^ 900:Nat):Rat)
theorem DU:0≤uQ:=by
 have:((0:Nat):Rat)≤((256 ^ 900:Nat):Rat):=Rat.natCast_le_natCast.mpr (Nat.zero_le _)
 exact this
theorem pow_two {a b c:Nat} (h:a+b=c):256 ^ a*256 ^ b=256 ^ c:=by rw [← h,Nat.pow_add]
theorem zG {k:Nat} (h:k≤256 ^ 100):(k:Rat)*uQ≤vQ:=by
 unfold uQ vQ
 rw [← Rat.natCast_mul]
 refine Rat.natCast_le_natCast.mpr ?_
 calc k*256 ^ 900≤256 ^ 100*256 ^ 900:=Nat.mul_le_mul_right _ h
  _=256 ^ uK:=pow_two (show 100+900=uK from rfl)
theorem KL {k:Nat} (h:k≤256 ^ 100):(k:Rat)≤vQ:=by
 unfold vQ
 exact Rat.natCast_le_natCast.mpr (Nat.le_trans h (Nat.pow_le_pow_right jj jj))
abbrev DV (A:Nat) (q:Rat):Prop:=dY A q∧0≤q∧q≤uQ
section
variable {A n:Nat} {l:gZ}
theorem QD {t:dJ} (h:wP (DV A) n t):aU t≤(t.length:Rat)*uQ:=by
 induction t with
 | nil=>show (0:Rat)≤_;simp
 | cons p t ih =>
  have h1:=ih fun q hq=>h q (by simp [hq])
  have h2:=(h p kc).2.2.2
  rw [List.length_cons,Rat.natCast_add]
  show p.2+aU t≤_
  have:((1:Nat):Rat)=1:=rfl
  grind
theorem JX : ∀ {l:gZ},zA (DV A) n l→uF l≤(dI l:Rat)*uQ
 | [],_=>by show (0:Rat)≤((0:Nat):Rat)*uQ;have:((0:Nat):Rat)=0:=rfl;grind
 | t::l,h=>by
  have h1:=JX (l:=l) fun u hu=>h u (by simp [hu])
  have h2:=QD (h t kc)
  show aU t+uF l≤((t.length+dI l:Nat):Rat)*uQ
  rw [Rat.natCast_add]
  grind
theorem QE : ∀ {l:gZ},Rw l→0≤uF l
 | [],_=>Rat.le_refl
 | t::l,h=>by
  have:=QE (l:=l) fun u hu=>h u (by simp [hu])
  have:=vg (h t kc)
  show 0≤aU t+uF l
  grind
theorem afE : ∀ {l:gZ} {j:Nat},Rw l→j<l.length→aU (ix l j)≤uF l
 | t::l,0,h,_=>by
  have:=QE (l:=l) fun u hu=>h u (by simp [hu])
  show aU t≤aU t+uF l
  grind
 | t::l,j+1,h,hj=>by
  have:=afE (l:=l) (j:=j) (fun u hu=>h u (by simp [hu])) (by simpa using hj)
  have:=vg (h t kc)
  show aU (ix l j)≤aU t+uF l
  grind
theorem XK : ∀ {l:gZ} (k:Nat),Rw l→0≤zq l k∧zq l k≤uF l
 | [],k,h=>by unfold zq;rw [List.take_nil];exact ⟨Rat.le_refl,Rat.le_refl⟩
 | t::l,0,h=>⟨Rat.le_refl,QE h⟩
 | t::l,k+1,h=>by
  obtain ⟨h1,h2⟩:=XK (l:=l) k fun u hu=>h u (by simp [hu])
  have:=vg (h t kc)
  unfold zq at h1 h2 ⊢
  rw [List.take_succ_cons]
  show 0≤aU t+uF _∧aU t+uF _≤aU t+uF l
  grind
end
structure EB (n:Nat) (e:iq):Prop where
 nb:n≤1000
 r0:0<e.rk.length
 r1:e.rk.length≤1000
 rn:dI e.rk≤1000
 ps:e.ps.length≤1000
 m : ∀ p∈e.ps,p.1.length≤1000∧∀ i∈p.1,i<n
 p : ∀ p∈e.ps,0<p.2.length∧p.2.length≤1000∧dI p.2≤10000
section
variable {A B R D n:Nat} {l:gZ} {m x:Rat}
theorem nK (hD:Ae D) (hB:B ∣ D) {q:Rat} (h:dY B q) (h0:0≤q) (h1:q≤vQ):Zk D 1 q:=Zk.of hD.1 (h.dvd hB hD.1) h0 h1
theorem pK:2≤256 ^ uK:=Nat.le_trans (by decide:2≤256 ^ 1) (Nat.pow_le_pow_right jj jj)
theorem Ak : ∀ {l:gZ} {t:dJ},t∈l→t.length≤dI l
 | u::l,t,h=>by
  unfold dI
  rcases List.mem_cons.mp h with rfl|h
  ·omega
  ·have:=Ak h;omega
theorem UK (hD:Ae D) (hA:A ∣ D) (h:zA (DV A) n l) (hl:l.length≤1000) (hn:dI l≤10000):Kv D n l:=by
 have hU:=zG (k:=10000) jj
 have hU1:=zG (k:=1) jj
 have hz : ∀ t∈l,∀ p∈t,Zk D 1 p.2:=fun t ht p hp=>by
  have:=(h t ht p hp).2
  refine nK hD hA this.1 this.2.1 ?_
  have:((1:Nat):Rat)=1:=rfl
  grind
 refine ⟨jb,fun t ht=>by have:=Ak ht;omega,fun t ht=>?_,fun t ht p hp=>(h t ht p hp).1,fun t ht p hp=>(hz t ht p hp).sz hD (by have:=pK;omega),hz⟩
 have h1:=QD (h t ht)
 have h2:(t.length:Rat)≤((10000:Nat):Rat):=Rat.natCast_le_natCast.mpr (by have:=Ak ht;omega)
 have h3:=Rat.mul_le_mul_of_nonneg_right h2 DU
 refine (nK hD hA (zC fun p hp=>⟨(h t ht p hp).2.1,(h t ht p hp).2.2.1⟩) (vg fun p hp=>(h t ht p hp).2.2.1) kf).sz hD (by have:=pK;omega)
theorem Ih (hA0:0<A) (hD:Ae D) (hA:A ∣ D) (h:zA (DV A) n l) (hn:dI l≤10000) (hB:B ∣ D) (hm:dY B m) (h0:0≤m) (h1:m≤vQ) (hR0:0<R) (hR:R*uf A l m ∣ D) (hx:dY R x) (hx0:0≤x) (hx1:x≤vQ):Kw D l m x:=by
 have hnn:=h.D.nn
 have hR1:R ∣ D:=Nat.dvd_trans (Nat.dvd_mul_right _ _) hR
 have hU:=zG (k:=10000) jj
 have h2:(dI l:Rat)≤((10000:Nat):Rat):=Rat.natCast_le_natCast.mpr hn
 have h3:=Rat.mul_le_mul_of_nonneg_right h2 DU
 have ht:=JX h
 have hu:=pK
 have hzx:=nK hD hR1 hx hx0 hx1
 refine ⟨fun k _=>?_,h0,hzx.sz hD jb,fun hf=>?_,fun hf p hp=>?_⟩
 ·have hc:=XK k hnn
  exact ((nK hD hB hm h0 h1).sub (nK hD hA (afB h.D k) hc.1 kf)).sz hD jb
 ·have hs:=wQ h0 hf
  have:=afE hnn hf
  exact hzx.apW (nK hD hA (zC (h.D _ (iE hf))) (Rat.le_of_lt hs) kf) hD jb jb kf
 ·have hs:=wQ h0 hf
  have hpp:=h.D _ (iE hf) p hp
  have hps:p.2≤aU (ix l (eP l m)):=by
   have : ∀ t:dJ,(∀ q∈t,0≤q.2)→p∈t→p.2≤aU t:=fun t=>by
    induction t with
    | nil=>intro _ h;cases h
    | cons q t ih =>
     intro hq hp
     show p.2≤q.2+aU t
     have h4:=hq q kc
     have h5:0≤aU t:=vg fun r hr=>hq r (by simp [hr])
     rcases List.mem_cons.mp hp with rfl|hp
     ·grind
     ·have:=ih (fun r hr=>hq r (by simp [hr])) hp
      grind
   exact this _ (fun q hq=>(h.D _ (iE hf) q hq).2) hp
  have e:p.2*(x/aU (ix l (eP l m)))=x*(p.2/aU (ix l (eP l m))):=by grind
  have h4:=ng hs hps
  have h5:=zl hpp.2 hs
  have h6:=Rat.mul_le_mul_of_nonneg_left h4 hx0
  refine nK hD hR (afC hA0 h.D h0 hR0 hx hf hpp.1) ?_ ?_
  ·rw [e];exact Rat.mul_nonneg hx0 h5
  ·rw [e];grind
theorem left_le (h0:0≤m) (h:Rw l):0≤jJ l m∧jJ l m≤m:=by
 refine ⟨(Qr l m h0).1,?_⟩
 rw [Uz]
 have:=(XK (eP l m) h).1
 grind
theorem anq {l:gZ} (h:Rw l) (c:Int) : ∀ {m:Rat},0≤m→gy l m c≤uF l:=by
 induction l with
 | nil=>intro m _;exact Rat.le_refl
 | cons t l ih =>
  intro m hm
  have hl:=QE (l:=l) fun u hu=>h u (by simp [hu])
  have h2:=H8 (h t kc) c
  have h3:=Ah (h t kc) c
  unfold gy
  show _≤aU t+uF l
  split
  ·next hlt =>
   have h4:=ng (a:=m) (b:=aU t) kf (Rat.le_of_lt hlt)
   have h5:=Rat.mul_le_mul_of_nonneg_left h4 h3
   grind
  ·have:=ih (fun u hu=>h u (by simp [hu])) (m:=m - aU t) kf
   grind
theorem QF {l:gZ} (h:Rw l) (c:Int) {x:Rat} (hx:0≤x) (h0:0≤m):jV l m x c≤x:=by
 rw [Ai]
 split
 ·next hf =>
  have hs:=wQ h0 hf
  have hl:=h _ (iE hf)
  have e:jU (ix l (eP l m)) c*(x/aU (ix l (eP l m)))=x*(jU (ix l (eP l m)) c/aU (ix l (eP l m))):=by grind
  rw [e]
  have h4:=ng hs (H8 hl c)
  have h6:=Rat.mul_le_mul_of_nonneg_left h4 hx
  grind
 ·exact hx
end
section
variable {A B D n:Nat} {m:Rat} {e:iq}
theorem zH {α:Type} {f:α→Rat} {v:Rat} (h0:0≤v) : ∀ {l:List α} {k:Nat},(∀ a∈l,f a≤v)→l.length≤k→aF l f≤(k:Rat)*v
 | [],k,_,_=>by
  have:((0:Nat):Rat)≤(k:Rat):=Rat.natCast_le_natCast.mpr (Nat.zero_le _)
  exact Rat.mul_nonneg this h0
 | a::l,k,h,hk=>by
  obtain ⟨k,rfl⟩ : ∃ j,k=j+1:=⟨k - 1,by simp at hk;omega⟩
  have h1:=zH h0 (l:=l) (k:=k) (fun b hb=>h b (by simp [hb])) (by simpa using hk)
  have h2:=h a kc
  show f a+aF l f≤_
  rw [Rat.natCast_add]
  have:((1:Nat):Rat)=1:=rfl
  grind
theorem afF (h:ED A uQ n e) (hb:EB n e) (h0:0≤m) {p:List Nat×gZ} (hp:p∈e.ps):lJ e m p≤vQ:=by
 have ht:=JX h.rk
 have h2:(dI e.rk:Rat)≤((1000:Nat):Rat):=Rat.natCast_le_natCast.mpr hb.rn
 have h3:=Rat.mul_le_mul_of_nonneg_right h2 DU
 have h4:=zH (f:=Aq e m) (v:=((1000:Nat):Rat)*uQ) (Rat.mul_nonneg (Rat.natCast_le_natCast.mpr (Nat.zero_le 1000)) DU) (l:=p.1) (k:=1000) (fun c _=>Rat.le_trans (anq h.rk.D.nn c h0) (Rat.le_trans ht h3)) (hb.m p hp).1
 have h5:=zG (k:=1000*1000) jj
 rw [Rat.natCast_mul] at h5
 have:lJ e m p=aF p.1 (Aq e m):=rfl
 grind
theorem anr (h:ED A uQ n e) (hb:EB n e) (h0:0≤m) {p:List Nat×gZ} (hp:p∈e.ps):wU e m p≤vQ:=by
 have h4:=zH (f:=rts e m) (v:=1) jj (l:=p.1) (k:=1000) (fun c _=>QF h.rk.D.nn c jj h0) (hb.m p hp).1
 have h5:=KL (k:=1000) jj
 have:wU e m p=aF p.1 (rts e m):=rfl
 grind
theorem ant (hD:Ae D) (hA:A ∣ D) (h:ED A uQ n e) (hb:EB n e):EOk D n e:=by
 have hn:=hb.nb
 have hps:=hb.ps
 refine ⟨jb,UK hD hA h.rk hb.r1 (by have:=hb.rn;omega),hb.r0,jb,fun p hp=>⟨by have:=(hb.m p hp).1;omega,(hb.m p hp).2⟩,fun p hp=>⟨UK hD hA (h.ps p hp) (hb.p p hp).2.1 (hb.p p hp).2.2,(hb.p p hp).1⟩,?_⟩
 have h1 : ∀ l:List (List Nat×gZ),(∀ p∈l,dI p.2≤10000)→DL l≤l.length*10000:=fun l=>by
  induction l with
  | nil=>intro _;exact Nat.le_refl 0
  | cons p l ih =>
   intro h
   have:=ih fun q hq=>h q (by simp [hq])
   have:=h p kc
   unfold DL
   rw [List.length_cons];omega
 have h2:=h1 e.ps fun p hp=>(hb.p p hp).2.2
 have h3:=hb.rn
 have h4:256 ^ 5≤256 ^ uK:=Nat.pow_le_pow_right jj jj
 refine Nat.le_trans (?_:_≤1099511627776) h4
 clear h4
 have h5:e.ps.length*10000≤1000*10000:=Nat.mul_le_mul_right _ hps
 have h6:dI e.rk*1000001≤1000*1000001:=Nat.mul_le_mul_right _ h3
 exact Nat.le_trans (Nat.add_le_add h6 (Nat.le_trans h2 h5)) jj
theorem anu (hA0:0<A) (hB0:0<B) (hAB:A ∣ B) (hD:Ae D) (hBD:B*GN A e m ∣ D) (h:ED A uQ n e) (hb:EB n e) (hm:dY B m) (h0:0≤m) (h1:m≤vQ):MOk D e m:=by
 have hB:B ∣ D:=Nat.dvd_trans (Nat.dvd_mul_right _ _) hBD
 have hA:A ∣ D:=Nat.dvd_trans hAB hB
 have hr:B*uf A e.rk m ∣ D:=Nat.dvd_trans (Nat.mul_dvd_mul_left _ (Nat.dvd_mul_right _ _)) hBD
 have hr0:=Nat.mul_pos hB0 (qF hA0 h.rk.D h0)
 refine ⟨(nK hD hB hm h0 h1).sz hD (by have:=pK;omega),?_,fun p hp=>?_⟩
 ·have hl:=left_le h0 h.rk.D.nn
  exact Ih hA0 hD hA h.rk (by have:=hb.rn;omega) hB hm h0 h1 hB0 hr (XJ hA0 hB0 hAB h.rk.D hm) hl.1 (Rat.le_trans hl.2 h1)
 ·have hg:=ou h.nn h0 p
  have hgD:=ZA hA0 hB0 hAB h hm h0 p
  have hgl:=afF h hb h0 hp
  have hl:=left_le hg (h.ps p hp).D.nn
  have hd:B*uf A e.rk m*uf A p.2 (lJ e m p) ∣ D:=by
   refine Nat.dvd_trans ?_ hBD
   rw [Nat.mul_assoc]
   exact Nat.mul_dvd_mul_left _ (Nat.mul_dvd_mul_left _ (zD A e m hp))
  exact ⟨Ih hA0 hD hA (h.ps p hp) (hb.p p hp).2.2 hr hgD hg hgl hr0 hd (XJ hA0 hr0 (Nat.dvd_trans hAB (Nat.dvd_mul_right _ _)) (h.ps p hp).D hgD) hl.1 (Rat.le_trans hl.2 hgl),(nK hD hr hgD hg hgl).sz hD (by have:=pK;omega)⟩
theorem anv (hA0:0<A) (hB0:0<B) (hAB:A ∣ B) (hD:Ae D) (hBD:B*GN A e m ∣ D) (h:ED A uQ n e) (hb:EB n e) (hm:dY B m) (h0:0≤m) (h1:m≤vQ):ROk D e m:=by
 have hB:B ∣ D:=Nat.dvd_trans (Nat.dvd_mul_right _ _) hBD
 have hA:A ∣ D:=Nat.dvd_trans hAB hB
 have hr:B*uf A e.rk m ∣ D:=Nat.dvd_trans (Nat.mul_dvd_mul_left _ (Nat.dvd_mul_right _ _)) hBD
 have hr0:=qF hA0 h.rk.D h0
 have hr1:uf A e.rk m ∣ D:=Nat.dvd_trans (Nat.dvd_mul_left _ _) hr
 have h1v:=KL (k:=1) jj
 refine ⟨?_,fun p hp=>?_⟩
 ·exact Ih (R:=1) hA0 hD hA h.rk (by have:=hb.rn;omega) hB hm h0 h1 jj (by rw [Nat.one_mul];exact hr1) ⟨1,by grind⟩ jj h1v
 ·have hg:=ou h.nn h0 p
  have hgD:=ZA hA0 hB0 hAB h hm h0 p
  have hgl:=afF h hb h0 hp
  have hR:=Qn h.nn h0 p
  have hRD:=akC hA0 h h0 p
  have hRl:=anr h hb h0 hp
  have hd:uf A e.rk m*uf A p.2 (lJ e m p) ∣ D:=by
   refine Nat.dvd_trans ?_ (Nat.dvd_trans (Nat.dvd_mul_left _ _) hBD)
   exact Nat.mul_dvd_mul_left _ (zD A e m hp)
  exact ⟨Ih hA0 hD hA (h.ps p hp) (hb.p p hp).2.2 hr hgD hg hgl hr0 hd hRD hR hRl,(nK hD hr1 hRD hR hRl).sz hD (by have:=pK;omega)⟩
end
section
variable {E:Env} [Xu E] {p:Nat→Prop} {σ:St} {K:V→St→Prop}
theorem aji {ev dv:B} {g:gK} (hg:qB p σ.h ev dv g) (hs:vN 134217728 g):aO E 27 [.agg [ev,dv]] σ K=K (.c (.int .i64 (qO g))) σ :=
 E8 (by
  have h:=aiI hg hs
  unfold Qi WQ qA abE abD
  simp only [Nat.reduceEqDiff,reduceIte,h])
theorem Oi {v:B} {a:fK} (ha:gu p σ.h v a) (h1:a.length≤1000000) (h2:a.flatten.length≤1000000) {v' : V} {σ' : St} (hm:ae7 (vO a) σ=some (v',σ')):aO E 90 [.agg [v]] σ K=K v' σ' :=
 E8 (by
  have h:=(aiV ha h1 h2).trans hm
  unfold Qi WQ qA abE abD
  simp only [Nat.reduceEqDiff,reduceIte,h])
end
theorem abU {E:Env} [Xu E] {σ:St} (hW:WF σ) {p:Nat→Prop} {v:B} {a:fK} (ha:gu p σ.h v a) (h1:a.length≤1000000) (h2:a.flatten.length≤1000000) :
  aO E 90 [.agg [v]] σ fun r σ'=>(∃ u,r = .c u∧wM σ'.h u (vO a).length (fun i=>[.int .i64 (ix (vO a) i)]) 1 3 σ.ah σ'.ah)∧Fr σ σ':=by
 by_cases h0:(vO a).length=0
 ·rw [Oi ha h1 h2 (v':=.c .aY) (σ':=σ) (if_pos h0)]
  exact ⟨⟨_,rfl,.inl ⟨h0,rfl⟩⟩,Fr.refl hW⟩
 ·rw [Oi ha h1 h2 (if_neg h0)]
  exact ⟨⟨_,rfl,.inr ⟨jb,_,rfl,aA _ _ _,jp,Nat.lt_succ_self _⟩⟩,fr⟩
theorem ajj {a:fK} {n:Nat} (ha : ∀ t∈a,∀ x∈t,x.k = -1∨0≤x.k∧x.k<n) {i:Nat} (hi:i<(vO a).length):B.int .i64 (ix (vO a) i)=MN (jY a) i:=by
 unfold MN jY
 rw [Oh Int.toNat hi]
 have:=pY ha _ (jQ hi)
 show _=B.int .i64 ((ix (vO a) i).toNat:Int)
 rw [Int.toNat_of_nonneg this.1]
theorem UL (a:fK):(jY a).length=(vO a).length:=List.length_map _
structure TS (σ:St) (tb bs:Nat) (t:dJ):Prop where
 b:σ.h tb=some ⟨jC (aT t.length bs) (aU t),none⟩
 o:KC σ.h bs t
 lo:tb<bs
 hi:t.length=0∨bs<σ.ah
theorem TS.lt {σ:St} (hW:WF σ) {tb bs:Nat} {t:dJ} (h:TS σ tb bs t):tb<σ.ah:=hW.lt h.b
theorem TS.on {σ σ' : St} {tb bs:Nat} {t:dJ} (h:TS σ tb bs t) (h1 : ∀ b,tb≤b→b<σ.ah→σ'.h b=σ.h b) (hW:WF σ) (hle:σ.ah≤σ'.ah):TS σ' tb bs t:=by
 have h0:=h.lt hW
 have hlo:=h.lo
 have hhi:=h.hi
 refine ⟨by rw [h1 tb jp h0];exact h.b,?_,hlo,jb⟩
 refine (rM ?_).trans h.o
 rcases hhi with hhi|hhi
 ·exact .inl hhi
 ·exact .inr (h1 bs jb hhi)
theorem TS.fr {σ σ' : St} {tb bs:Nat} {t:dJ} (h:TS σ tb bs t) (hW:WF σ) (hf:Fr σ σ'):TS σ' tb bs t:=h.on (fun b _ hb=>hf.old b hb) hW hf.le
theorem TS.fre {σ σ' : St} {ex:List Nat} {tb bs:Nat} {t:dJ} (h:TS σ tb bs t) (hW:WF σ) (hf:fE ex σ σ') (hx : ∀ b∈ex,b<tb):TS σ' tb bs t:=h.on (fun b h1 h2=>hf.old b h2 fun hm=>by have:=hx b hm;omega) hW hf.le
theorem XL {σ:St} (hW:WF σ) {tb bs:Nat} {t:dJ} (hT:TS σ tb bs t) (hl:t.length≤1000000) (k:Int) (q:Rat) (hs:Sz (aU t)) (hq:Sz q) :
  aO EN 92 [.c (.ptr tb 0),.c (.int .i64 k),.agg [.bool (rn q),.str (rs q),.str (rd q)]] σ fun _ σ'=>(∃ bs',TS σ' tb bs' (t ++ [(k,q)]))∧(∀ b,b<tb→σ'.h b=σ.h b)∧WF σ'∧σ.ah≤σ'.ah:=by
 have h0:=hT.lo
 have hlt:=hT.lt hW
 have:=afv (G:=fun _=>jC (aT t.length bs) (aU t)) (n:=1) (r:=0) hW (by rw [hT.b];rfl) jj (fun _=>rfl) rfl rfl rfl hT.o (.inr jb) hT.hi hl k q hs hq
 refine this.mono ?_
 rintro _ σ' ⟨nx,h1,h2,h3,h4,h5⟩
 have hle:=h5.le
 refine ⟨⟨nx,?_,?_,jb,.inr h2⟩,fun b hb=>h5.old b jb (by simp;omega),h5.wf,hle⟩
 ·rw [h3,Og,List.length_append];rfl
 ·unfold KC
  rw [List.length_append,List.length_singleton]
  show σ'.h nx=some _
  rw [h4,jF]
  congr 2
  refine dA fun j hj=>?_
  unfold jd
  split
  ·next e=>rw [e,fO]
  ·rw [fM _ _ jb]
/-! ### Qj of one's own -/
def ajk (U:Nat→B) (Lf:Nat→dJ) (p:Nat→Prop) (h:Tr Bk) (i:Nat):Prop:=bW p h 4 (U i) (Lf i).length fun c=>wK (ix (Lf i) c)
def UM (U:Nat→B) (Lf:Nat→dJ) (i:Nat):List B:=jC (U i) (aU (Lf i))
abbrev XM (U:Nat→B) (Lf:Nat→dJ) (h:Tr Bk) (b n lo hi:Nat):Prop:=NF (ajk U Lf) h b n (UM U Lf) 4 156 lo hi
theorem QG (U:Nat→B) (Lf:Nat→dJ) (j:Nat):QK (ajk U Lf) j:=fun _ _ _ _ hp hk hq=>bW.keep hp hk hq
theorem QH (U:Nat→B) (Lf:Nat→dJ):LG (UM U Lf) 4:=fun _=>rfl
section
variable {U:Nat→B} {Lf:Nat→dJ} {h h' : Tr Bk} {b n lo hi:Nat}
theorem XM.push (ho:XM U Lf h b n lo hi) {σ1:St} (hW:WF σ1) {tb bs nx n' : Nat} {t:dJ} (hL:Lf n=t) (hT:TS σ1 tb bs t) (ht:hi≤tb) (h5:lo≤hi) (hh : ∀ b,lo≤b→b<hi→σ1.h b=h b) (h3:σ1.ah≤nx) (h4:nx<n')
  (hb:h' nx=some ⟨bH n (UM U Lf) ++ jC (aT t.length bs) (aU t),some (4,156)⟩) (hk : ∀ c,lo≤c→c<σ1.ah→n=0∨c≠b→h' c=σ1.h c):XM (aK U n (aT t.length bs)) Lf h' nx (n+1) lo n':=by
 have hlt:=hT.lt hW
 have hlo:=hT.lo
 have hx:bW (fun b=>hi≤b∧b<σ1.ah) σ1.h 4 (aT t.length bs) t.length fun j=>wK (ix t j):=hT.o.hlp (by rcases hT.hi with h0|h0;exact .inl h0;exact .inr ⟨jb,h0⟩)
 refine NF.push ho (fun j _=>QG _ Lf j) (fun j hj p h hq=>?_) (hi1:=σ1.ah) (h1:=σ1.h) ?_ hh jb h3 h4 h5 hb ?_ hk (fun i hi=>?_) (QH _ _)
 ·unfold ajk at hq ⊢;rw [aJ _ _ _ _ jb];exact hq
 ·unfold ajk;rw [aH,hL];exact hx
 ·unfold UM;rw [aH,hL]
 ·unfold UM;rw [aJ _ _ _ _ jb]
theorem XM.anw (ho:XM U Lf h b n lo hi) {l:gZ} (hl:l.length=n) (hL : ∀ i,i<n→Lf i=ix l i):vk (fun b=>lo≤b∧b<hi) h (aT n b) l:=by
 have hel:=fun i (hi:i<n)=>ho.el (fun j _=>QG U Lf j) hi
 refine ⟨U,?_,by cases n <;> trivial,fun i hi=>?_⟩
 ·rw [hl]
  refine (ho.hlp jj (fun i hi=>?_) fun b h1 h2=>⟨h1,h2⟩).congr fun i hi=>by unfold UM;rw [hL i hi]
  unfold UM jC
  simp only [List.all_cons,List.all_nil,xG,Bo,(hel i hi).kn,Bool.and_self]
 ·rw [hl] at hi
  rw [← hL i hi];exact hel i hi
end
/-! ### The steps of lay -/
def lsS (cs:List C5) (a:fK) (j:Nat):(Nat→Rat)×gZ:=(a.take j).foldl ltS ((fun i:Nat=>(ix cs i).a.q),[])
def xK (f:Nat→Rat) (t:ET) (l:Nat):(Nat→Rat)×dJ:=(t.take l).foldl lpS (f,[])
theorem KP {cs:List C5} {a:fK} {j:Nat} (h:j<a.length):lsS cs a (j+1)=ltS (lsS cs a j) (ix a j):=by unfold lsS;rw [aZ h,List.foldl_append];rfl
theorem DW (cs:List C5) (a:fK):lsS cs a a.length=lsA cs a:=by unfold lsS lsA;rw [List.take_length]
theorem xM (cs:List C5) (a:fK) : ∀ j,j≤a.length→(lsS cs a j).2.length=j
 | 0,_=>rfl
 | j+1,h=>by
  rw [KP jb]
  unfold ltS
  rw [List.length_append,xM cs a j jb];rfl
theorem XO {α:Type} [Inhabited α] {l:List α} {x:α} {n:Nat} (h:l.length=n):ix (l ++ [x]) n=x:=by subst h;exact fO _ _
theorem qG (m k:Nat) (F:Nat→Rat):dO m (aK (fun i=>if i<k then F i else 0) k (F k))=dO m fun i=>if i<k+1 then F i else 0:=gB fun i _=>by
 unfold aK
 by_cases e:i=k
 ·rw [if_pos e,if_pos jb,e]
 ·rw [if_neg e]
  show (if i<k then F i else 0)=_
  by_cases e2:i<k
  ·rw [if_pos e2,if_pos jb]
  ·rw [if_neg e2,if_neg jb]
theorem xO (m:Nat) (F:Nat→Rat):dO m (fun i=>if i<m then F i else 0)=dO m F:=gB fun i hi=>if_pos hi
theorem ug (m:Nat) (F:Nat→Rat):dO m (fun _=>0)=dO m fun i=>if i<0 then F i else 0:=gB fun i _=>rfl
theorem afG {s:(Nat→Rat)×dJ} {x:x9} {kk:Nat} (h1 : ¬ x.k = -1) (hk:x.k=Int.ofNat kk):lpS s x=(aK s.1 kk (s.1 kk - if x.b=true then jW (s.1 kk) x.a.q else s.1 kk),s.2 ++ [(Int.ofNat kk,if x.b=true then jW (s.1 kk) x.a.q else s.1 kk)]):=by
 unfold lpS
 rw [if_neg h1,hk]
 refine Prod.ext ?_ rfl
 funext i
 unfold aK
 show (if i=kk then _ else _)=if i=kk then _ else _
 split
 ·next e=>rw [e];rfl
 ·rfl
theorem QI {cs:List C5} {a:fK} {i:Nat} : ∀ {j},i<j→j≤a.length→ix (lsS cs a j).2 i=(xK (lsS cs a i).1 (ix a i) (ix a i).length).2
 | j+1,hi,hj=>by
  rw [KP jb]
  unfold ltS
  by_cases e:i=j
  ·subst e
   have:=xM cs a i jb
   exact (XO this).trans (by unfold xK;rw [List.take_length])
  ·show ix ((lsS cs a j).2 ++ [_]) i=_
   rw [fM _ _ (by rw [xM cs a j jb];omega)]
   exact QI jb jb
theorem UN {f:Nat→Rat} {t:ET} {l:Nat} (h:l<t.length):xK f t (l+1)=lpS (xK f t l) (ix t l):=by unfold xK;rw [aZ h,List.foldl_append];rfl
theorem Ii (f:Nat→Rat) (t:ET) : ∀ l,l≤t.length→(xK f t l).2.length=l
 | 0,_=>rfl
 | l+1,h=>by
  rw [UN jb]
  unfold lpS
  split <;> simp [Ii f t l jb]
theorem afH {cs:List C5} {a:fK} {j:Nat} (h:j<a.length):(lsS cs a (j+1)).1=(xK (lsS cs a j).1 (ix a j) (ix a j).length).1:=by
 rw [KP h]
 unfold ltS xK
 rw [List.take_length]
theorem abV (ms:List Nat) (f:Nat→Rat) {i:Nat} (h:i<ms.length):vT (ms.take (i+1)) f=vT (ms.take i) f ++ [(((ix ms i:Nat):Int),f (ix ms i))]:=by
 unfold vT
 rw [aZ h,List.map_append];rfl
/-! ### ajl of lists of members -/
theorem afI : ∀ {l:List Int} {lo hi:Int},l.Pairwise (· < ·)→(∀ x∈l,lo≤x∧x<hi)→l.length≤(hi - lo).toNat
 | [],_,_,_,_=>Nat.zero_le _
 | a::l,lo,hi,hp,h=>by
  rw [List.pairwise_cons] at hp
  have h1:=h a kc
  have:=afI (lo:=a+1) (hi:=hi) hp.2 fun x hx=>by have:=hp.1 x hx;have:=h x (by simp [hx]);omega
  rw [List.length_cons]
  omega
theorem KQ {a:fK} {n:Nat} (ha : ∀ t∈a,∀ x∈t,x.k = -1∨0≤x.k∧x.k<n):(jY a).length≤n:=by
 have:=afI (Y7 a) (pY ha)
 rw [UL];omega
theorem Ij (cs:List C5) (r:Nat) : ∀ k,(Au cs r k).length≤k
 | 0=>Nat.le_refl 0
 | k+1=>by
  have:=Ij cs r k
  unfold Au
  rw [List.length_append]
  split <;> simp <;> omega
/-! ### Sizes -/
section
variable {A n:Nat}
theorem anx (hA:0<A):MO (DV A) where
 min:=fun a b ha hb=>by unfold jW;split <;> assumption
 sub:=fun a b ha hb=>by
  have h1:=ha.2;have h2:=hb.2
  unfold jW;split
  ·rw [show a - a=0 by grind];exact ⟨dY.zero A,Rat.le_refl,DU⟩
  ·exact ⟨ha.1.sub hb.1,by grind,by grind⟩
 zero:=⟨dY.zero A,Rat.le_refl,DU⟩
theorem KR (hA:Ae A) {q:Rat} (h:DV A q):Sz q:=by
 have hU:=zG (k:=1) jj
 have:((1:Nat):Rat)=1:=rfl
 exact (nK hA (Nat.dvd_refl A) h.1 h.2.1 kf).sz hA (by have:=pK;omega)
theorem QJ (hA:Ae A) {t:dJ} (h:wP (DV A) n t) (hl:t.length≤10000):Sz (aU t):=by
 have hU:=zG (k:=10000) jj
 have h1:=QD h
 have h2:(t.length:Rat)≤((10000:Nat):Rat):=Rat.natCast_le_natCast.mpr hl
 have h3:=Rat.mul_le_mul_of_nonneg_right h2 DU
 exact (nK hA (Nat.dvd_refl A) (zC fun p hp=>⟨(h p hp).2.1,(h p hp).2.2.1⟩) (vg fun p hp=>(h p hp).2.2.1) kf).sz hA (by have:=pK;omega)
theorem anz {P:Rat→Prop} (hP:MO P) {f:Nat→Rat} (hf : ∀ i,P (f i)) {t:ET} (ht : ∀ x∈t,MP P n x) (l:Nat):(∀ i,P ((xK f t l).1 i))∧wP P n (xK f t l).2 :=
 XD hP (t.take l) hf (fun _ h=>by cases h) fun x hx=>ht x (List.mem_of_mem_take hx)
theorem anA {P:Rat→Prop} (hP:MO P) {cs:List C5} (hc : ∀ i,P (ix cs i).a.q) {a:fK} (ha : ∀ t∈a,∀ x∈t,MP P n x) (j:Nat) (i:Nat):P ((lsS cs a j).1 i) :=
 (XE hP (a.take j) hc (fun _ h=>by cases h) fun t ht=>ha t (List.mem_of_mem_take ht)).1 i
end
theorem anB (p q:Rat):Jj p q=jW p q:=by
 unfold Jj jW
 by_cases h:p≤q
 ·rw [if_pos h,if_pos (xg.mpr h)]
 ·rw [if_neg h,if_neg fun e=>h (xg.mp e)]
structure afJ (A:Nat) (cs:List C5) (a:fK):Prop where
 nc:cs.length≤1000
 na:a.length≤1000
 nt : ∀ t,t<a.length→(ix a t).length≤1000
 nf:a.flatten.length≤1000000
 fc : ∀ i,i<cs.length→(ix cs i).a.fits 1000000
 fp : ∀ t,t<a.length→∀ l,l<(ix a t).length→(ix (ix a t) l).a.fits 1000000
 c : ∀ i,DV A (ix cs i).a.q
 p : ∀ t∈a,∀ x∈t,MP (DV A) cs.length x
theorem kN (a:Nat):(Int.ofNat a=Int.negSucc 0)=False:=by simp
set_option maxRecDepth 10000 in
theorem aqy {σ:St} (hW:WF σ) {p p' : Nat→Prop} {x1 x2 x3 C Av tv:B} {cs:List C5} {a:fK} (hC:pX p σ.h C cs) (hT:gu p' σ.h tv a) (h1:x1.kn=true) (h2:x2.kn=true) (h3:x3.kn=true) (h4:Av.kn=true) {A:Nat} (hA:Ae A) (hO:afJ A cs a) :
  aO EN 93 [.agg [x1,x2,x3,C,Av],.agg [tv]] σ fun r σ'=>(∃ mv lv,r = .agg [mv,lv]∧XC (fun b=>σ.ah≤b∧b<σ'.ah) σ'.h mv (jY a)∧vk (fun b=>σ.ah≤b∧b<σ'.ah) σ'.h lv (pJ cs a).2)∧Fr σ σ':=by
 refine bF (qV.o _ _) qV.h ?_
 unfold qV
 dsimp only
 have hCk:=bW.kn hC
 have hTk:=hT.kn
 have UO:=bW.len hC
 have aqz:=hT.len
 have hnc:=hO.nc
 have hna:=hO.na
 have hFr:=Fr.refl hW
 have hPc:=anx hA.1
 simp (maxSteps:=9^9) (disch:=try exact jz) only [go_sem,z3,h1,h2,h3,hCk,h4,hTk]
 refine aO.st (Fr σ) (fr) fun hF1=>?_
 refine (abU hF1.wf (hT.fr hW hF1) jb hO.nf).mono ?_
 rintro _ σ1 ⟨⟨mv,rfl,hM⟩,hf1⟩
 have hF:=hF1.trans hf1
 have hle1:σ.ah+1+1≤σ1.ah:=Nat.le_trans (by show _≤σ.ah+1+1+1;omega) hf1.le
 have hle2:σ.ah+1+1+1≤σ1.ah:=hf1.le
 have hM:wM σ1.h mv (vO a).length (fun i=>[.int .i64 (ix (vO a) i)]) 1 3 (σ.ah+1+1+1) σ1.ah:=hM
 have q0:σ1.h σ.ah=some ⟨[x1,x2,x3,C,Av],none⟩:=hf1.get hF1.wf ((ak _ _ _ _ jb).trans ((ak _ _ _ _ jb).trans (aA _ _ _)))
 have q1:σ1.h (σ.ah+1)=some ⟨[tv],none⟩:=hf1.get hF1.wf ((ak _ _ _ _ jb).trans (aA _ _ _))
 have q2:σ1.h (σ.ah+1+1)=some ⟨[.aY,.aY],none⟩:=hf1.get hF1.wf (aA _ _ _)
 have hMk:=hM.kn
 have atu:=Fr.refl hF.wf
 simp (maxSteps:=9^9) (disch:=try exact jz) only [go_sem,z3,hMk,au q0,h1,h2,h3,hCk,h4,UO]
 refine bM.mono (Q:=fun ex tm σ'=>ex = .exit 0∧Tr.aj tm 3 = .c (.ptr (σ.ah+1) 0)∧Tr.aj tm 4 = .c (.ptr (σ.ah+1+1) 0)∧Tr.aj tm 5 = .c (.ptr σ1.ah 0)∧Tr.aj tm 6 = .c (.sl (σ1.ah+1) 0 cs.length (.ex cs.length))∧σ'.h σ1.ah=some ⟨[mv,.aY],none⟩∧σ'.h (σ1.ah+1)=some ⟨dO cs.length (lsS cs a 0).1,none⟩∧Fr σ1 σ'∧σ1.ah+1+1≤σ'.ah)
  (aN (fun q tm σ'=>∃ k,q=cs.length - k∧k≤cs.length∧Tr.aj tm 3 = .c (.ptr (σ.ah+1) 0)∧Tr.aj tm 4 = .c (.ptr (σ.ah+1+1) 0)∧Tr.aj tm 5 = .c (.ptr σ1.ah 0)∧Tr.aj tm 6 = .c (.sl (σ1.ah+1) 0 cs.length (.ex cs.length))∧Tr.aj tm 26 = .c C∧Tr.aj tm 27 = .c (.int .i64 (.ofNat cs.length))∧Tr.aj tm 28 = .c (.int .i64 (.ofNat k))
   ∧ σ'.h σ1.ah=some ⟨[mv,.aY],none⟩∧σ'.h (σ1.ah+1)=some ⟨dO cs.length (fun i=>if i<k then (ix cs i).a.q else 0),none⟩∧Fr σ1 σ'∧σ1.ah+1+1≤σ'.ah) cs.length ?_ ?_) ?_
 ·refine ⟨0,jb,jb,?_⟩
  simp (maxSteps:=9^9) (disch:=try exact jz) only [go_sem,z3,true_and]
  refine ⟨?_,fr,jb⟩
  congr 2
 ·rintro q tm σ' ⟨k,rfl,hk,t3,t4,t5,t6,t26,t27,t28,p5,p6,hf,hnx⟩
  have hle:=hf.le
  simp (maxSteps:=9^9) (disch:=try exact jz) only [go_sem,z3,t3,t4,t5,t6,t26,t27,t28,aP]
  refine aI (fun hlt=>?_) (fun hlt=>?_)
  ·obtain ⟨b5,o5,c5,rfl,-,dh⟩:=bW.pos hC jb
   have dh:=(hF.trans hf).ld hW (dh k hlt)
   unfold c5B at dh
   have hfit:=Aj (hO.fc k hlt) jj
   have hz:=Sz.zero.two
   have hraw:rq (ix cs k).a.n (ix cs k).a.s (ix cs k).a.d=(ix cs k).a.q:=rfl
   simp (maxSteps:=9^9) (disch:=try exact jz) only [go_sem,z3,t3,t4,t5,t6,t26,t27,t28,dh,hfit,hz,hraw,Rat.add_zero,aX p6,p6]
   refine ⟨cs.length - (k+1),jb,k+1,rfl,jb,rfl,p5,?_,fr,jb⟩
   exact congrArg (fun l=>some (Bk.mk l none)) (qG cs.length k fun i=>(ix cs i).a.q)
  ·have:k=cs.length:=jb
   subst this
   simp (maxSteps:=9^9) (disch:=try exact jz) only [go_sem,z3,true_and]
   refine ⟨t3,t4,t5,t6,p5,?_,hf,hnx⟩
   rw [p6]
   congr 2
   exact gB fun i hi=>if_pos hi
 rintro _ tm σ2 ⟨rfl,t3,t4,t5,t6,p5,p6,hf2,hnx2⟩
 have hF2:=hF.trans hf2
 have q1:=hf2.get hF.wf q1
 have q2:=hf2.get hF.wf q2
 have hle3:=hf2.le
 simp (maxSteps:=9^9) (disch:=try exact jz) only [go_sem,z3,t3,t4,t5,t6,au q1,hTk,aqz]
 refine bM.mono (Q:=fun ex tm σ'=>ex = .exit 2∧∃ lb U,Tr.aj tm 4 = .c (.ptr (σ.ah+1+1) 0)∧Tr.aj tm 5 = .c (.ptr σ1.ah 0)∧Tr.aj tm 6 = .c (.sl (σ1.ah+1) 0 cs.length (.ex cs.length))∧σ'.h σ1.ah=some ⟨[mv,aT a.length lb],none⟩∧σ'.h (σ1.ah+1)=some ⟨dO cs.length (lsA cs a).1,none⟩∧XM U (fun i=>ix (pJ cs a).2 i) σ'.h lb a.length σ2.ah σ'.ah∧fE [σ1.ah,σ1.ah+1] σ2 σ')
  (aN (fun q tm σ'=>∃ j lb U,q=a.length - j∧j≤a.length∧Tr.aj tm 4 = .c (.ptr (σ.ah+1+1) 0)∧Tr.aj tm 5 = .c (.ptr σ1.ah 0)∧Tr.aj tm 6 = .c (.sl (σ1.ah+1) 0 cs.length (.ex cs.length))∧Tr.aj tm 42 = .c tv∧Tr.aj tm 43 = .c (.int .i64 (.ofNat a.length))∧Tr.aj tm 44 = .c (.int .i64 (.ofNat j))
   ∧ σ'.h σ1.ah=some ⟨[mv,aT j lb],none⟩∧σ'.h (σ1.ah+1)=some ⟨dO cs.length (lsS cs a j).1,none⟩∧XM U (fun i=>ix (pJ cs a).2 i) σ'.h lb j σ2.ah σ'.ah∧fE [σ1.ah,σ1.ah+1] σ2 σ') a.length ?_ ?_) ?_
 ·refine ⟨0,σ2.ah,fun _=>.aY,jb,jb,?_⟩
  simp (maxSteps:=9^9) (disch:=try exact jz) only [go_sem,z3,t4,t5,t6,true_and]
  exact ⟨p5,p6,NF.nil (QH _ _),fE.refl hf2.wf⟩
 ·rintro q tm σ' ⟨j,lb,U,rfl,hj,t4,t5,t6,t42,t43,t44,p5,p6,hN,hf⟩
  have hle:=hf.le
  simp (maxSteps:=9^9) (disch:=try exact jz) only [go_sem,z3,t4,t5,t6,t42,t43,t44,aP]
  refine aI (fun hlt=>?_) (fun hlt=>?_)
  ·obtain ⟨b6,o6,c6,rfl,P1,gQ,hP1⟩:=hT.at hlt
   have hb6:=hW.eU gQ
   have gQ:=hf.ld hf2.wf (by simp;omega) (hF2.ld hW gQ)
   have asn:=bW.kn hP1
   have UE:=bW.len hP1
   have hnt:=hO.nt j hlt
   have hfp:=hO.fp j hlt
   have hpp:=hO.p _ (jQ hlt)
   have hS:=afH (cs:=cs) hlt
   have hS2:=QI (cs:=cs) (a:=a) (i:=j) (Nat.lt_succ_self j) hlt
   have hL:ix (pJ cs a).2 j=(xK (lsS cs a j).1 (ix a j) (ix a j).length).2:=by
    unfold pJ
    rw [← DW]
    have h9:=xM cs a a.length jp
    show ix ((lsS cs a a.length).2 ++ [_]) j=_
    rw [fM _ _ jb]
    exact QI hlt jp
   have hSP:=anA hPc hO.c hO.p j
   clear hS2
   generalize (lsS cs a j).1=f at *
   generalize ix a j=r at *
   simp (maxSteps:=9^9) (disch:=try exact jz) only [go_sem,z3,t4,t5,t6,t42,t43,t44,gQ,asn,UE]
   refine bM.mono (Q:=fun ex tm σ4=>ex = .exit 4∧∃ bs,Tr.aj tm 4 = .c (.ptr (σ.ah+1+1) 0)∧Tr.aj tm 5 = .c (.ptr σ1.ah 0)∧Tr.aj tm 6 = .c (.sl (σ1.ah+1) 0 cs.length (.ex cs.length))∧Tr.aj tm 11 = .c (.ptr σ'.ah 0)∧Tr.aj tm 42 = .c (.sl b6 o6 a.length c6)∧Tr.aj tm 43 = .c (.int .i64 (.ofNat a.length))∧Tr.aj tm 44 = .c (.int .i64 (.ofNat j))
     ∧ σ4.h (σ1.ah+1)=some ⟨dO cs.length (xK f r r.length).1,none⟩∧TS σ4 σ'.ah bs (xK f r r.length).2∧fE [σ1.ah+1] σ' σ4)
    (aN (fun q tm σ4=>∃ l bs,q=r.length - l∧l≤r.length∧Tr.aj tm 4 = .c (.ptr (σ.ah+1+1) 0)∧Tr.aj tm 5 = .c (.ptr σ1.ah 0)∧Tr.aj tm 6 = .c (.sl (σ1.ah+1) 0 cs.length (.ex cs.length))∧Tr.aj tm 11 = .c (.ptr σ'.ah 0)∧Tr.aj tm 42 = .c (.sl b6 o6 a.length c6)∧Tr.aj tm 43 = .c (.int .i64 (.ofNat a.length))∧Tr.aj tm 44 = .c (.int .i64 (.ofNat j))∧Tr.aj tm 48 = .c P1∧Tr.aj tm 49 = .c (.int .i64 (.ofNat r.length))∧Tr.aj tm 50 = .c (.int .i64 (.ofNat l))
     ∧ σ4.h (σ1.ah+1)=some ⟨dO cs.length (xK f r l).1,none⟩∧TS σ4 σ'.ah bs (xK f r l).2∧fE [σ1.ah+1] σ' σ4) r.length ?_ ?_) ?_
   ·refine ⟨0,σ'.ah+1,jb,jb,?_⟩
    have qW:=Fr.refl hf.wf
    simp (maxSteps:=9^9) (disch:=try exact jz) only [go_sem,z3,t4,t5,t6,t42,t43,t44,true_and]
    refine ⟨?_,⟨?_,rfl,Nat.lt_succ_self _,.inl rfl⟩,Fr.ex (fr) _⟩
    ·exact p6
    ·rw [aA];rfl
   ·rintro q tm σ4 ⟨l,bs,rfl,hl,t4,t5,t6,t11,t42,t43,t44,t48,t49,t50,p64,Vp,hf4⟩
    have Aw:=hf4.le
    have aqA:=Vp.lt hf4.wf
    simp (maxSteps:=9^9) (disch:=try exact jz) only [go_sem,z3,t4,t5,t6,t11,t42,t43,t44,t48,t49,t50,aP]
    refine aI (fun afK=>?_) (fun afK=>?_)
    ·obtain ⟨b7,o7,c7,rfl,-,wR⟩:=bW.pos hP1 jb
     have wR:=wR l afK
     have hb7:=hW.eU wR
     have wR:=hf4.ld hf.wf (by simp;omega) (hf.ld hf2.wf (by simp;omega) (hF2.ld hW wR))
     unfold JV at wR
     have hfit:=Aj (hfp l afK) jj
     have hz:=Sz.zero.two
     have hx:=hpp _ (jQ afK)
     have hok:=anz hPc hSP hpp l
     have hsz:=QJ hA hok.2 (by rw [Ii f r l hl];omega)
     have hll:=Ii f r l hl
     have hsucc:=UN (f:=f) afK
     have hraw:rq (ix r l).a.n (ix r l).a.s (ix r l).a.d=(ix r l).a.q:=rfl
     have hkl : ∀ b,b<σ'.ah→b<σ4.ah:=fun b hb=>Nat.lt_of_lt_of_le hb Aw
     have ata:=hf4.wf.lt p64
     by_cases hk1:(ix r l).k=Int.negSucc 0
     ·have hS1:xK f r (l+1)=((xK f r l).1,(xK f r l).2 ++ [(Int.negSucc 0,(ix r l).a.q)]):=by
       rw [hsucc]
       unfold lpS
       rw [if_pos (show (ix r l).k = -1 from hk1)];rfl
      have hqz:=KR hA (hx.2 (.inl hk1))
      have QL:=Fr.refl hf4.wf
      simp (maxSteps:=9^9) (disch:=try exact jz) only [go_sem,z3,t4,t5,t6,t11,t42,t43,t44,t48,t49,t50,wR,hk1,hfit,hz,hraw,Rat.add_zero]
      refine aO.st (Fr σ4) (fr) fun jX=>?_
      have anC:=Vp.fr hf4.wf jX
      refine (XL jX.wf anC jb _ _ hsz hqz).mono ?_
      rintro _ σ6 ⟨⟨bs',afL⟩,hlo,hW6,zI⟩
      have zI:σ4.ah+1≤σ6.ah:=zI
      simp (maxSteps:=9^9) (disch:=try exact jz) only [go_sem,z3,t4,t5,t6,t11,t42,t43,t44,t48,t49,t50]
      refine ⟨r.length - (l+1),jb,l+1,bs',rfl,jb,rfl,?_,?_,?_⟩
      ·rw [hS1,hlo _ jb,jX.old _ jb];exact p64
      ·rw [hS1];exact afL
      ·exact ⟨jb,hW6,fun b hb hn=>by rw [hlo b hb,jX.old b jb];exact hf4.old b hb hn⟩
     ·obtain ⟨kk,hkk,hkn⟩ : ∃ kk:Nat,(ix r l).k=Int.ofNat kk∧kk<cs.length:=by
       rcases hx.1 with h|⟨ha,hb⟩
       ·exact absurd h hk1
       ·exact ⟨(ix r l).k.toNat,(Int.toNat_of_nonneg ha).symm,jb⟩
      have QL:=Fr.refl hf4.wf
      have hcz:=KR hA (hok.1 kk)
      have hcz2:=hcz.two
      have hxc:=hx.2
      have fin : ∀ (cq:Rat) {s5:St},Sz cq→(xK f r (l+1))=(aK (xK f r l).1 kk ((xK f r l).1 kk - cq),(xK f r l).2 ++ [(Int.ofNat kk,cq)])→fE [σ1.ah+1] σ4 s5→s5.h (σ1.ah+1)=some ⟨dO cs.length (aK (xK f r l).1 kk ((xK f r l).1 kk - cq)),none⟩→∀ {K:V→St→Prop},(∀ v σ6 bs',σ6.h (σ1.ah+1)=some ⟨dO cs.length (xK f r (l+1)).1,none⟩→TS σ6 σ'.ah bs' (xK f r (l+1)).2→fE [σ1.ah+1] σ' σ6→K v σ6) →
        aO EN 92 [.c (.ptr σ'.ah 0),.c (.int .i64 (.ofNat kk)),.agg [.bool (rn cq),.str (rs cq),.str (rd cq)]] s5 K:=fun cq s5 hcq hS1 jX h5 K hK=>by
       have anC:=Vp.fre hf4.wf jX (by simp;omega)
       refine (XL jX.wf anC jb _ _ hsz hcq).mono ?_
       rintro v σ6 ⟨⟨bs',afL⟩,hlo,hW6,zI⟩
       have Ar:=jX.le
       refine hK v σ6 bs' ?_ (by rw [hS1];exact afL) ⟨jb,hW6,fun b hb hn=>?_⟩
       ·rw [hlo _ jb,h5,hS1]
       ·rw [hlo b hb,jX.old b jb hn];exact hf4.old b hb hn
      by_cases hb:(ix r l).b=true
      ·have hS1:xK f r (l+1)=(aK (xK f r l).1 kk ((xK f r l).1 kk - jW ((xK f r l).1 kk) (ix r l).a.q),(xK f r l).2 ++ [(Int.ofNat kk,jW ((xK f r l).1 kk) (ix r l).a.q)]):=by
        rw [hsucc,afG (show ¬ (ix r l).k = -1 from hk1) hkk,hb]
        rfl
       have hmz:=KR hA (hPc.min _ _ (hok.1 kk) (hx.2 (.inr hb)))
       simp (maxSteps:=9^9) (disch:=try exact jz) only [go_sem,z3,t4,t5,t6,t11,t42,t43,t44,t48,t49,t50,wR,hkk,kN,hb,hfit,hcz2,hraw,anB,au p64,aX p64,p64]
       refine fin _ hmz hS1 (by have hFe:=fE.refl (ex:=[σ1.ah+1]) hf4.wf;repeat (first|assumption|exact fE.refl (by assumption)|exact fE.up (by assumption) (by first|omega|(dsimp only;omega))|exact fE.up (fE.refl (by assumption)) (by first|omega|(dsimp only;omega))|refine fE.set1 ?_ (by first|(left;omega)|(left;dsimp only;omega)|(right;simp)) (by first|omega|(dsimp only;omega))|refine fE.yV ?_ (by first|(left;omega)|(left;dsimp only;omega)|(right;simp))|refine fE.Gv ?_ (by first|(left;omega)|(left;dsimp only;omega)|(right;simp))|refine fE.MB ?_ (by first|omega|(dsimp only;omega)))) (aA _ _ _) fun v σ6 bs' h1 h2 h3=>?_
       simp (maxSteps:=9^9) (disch:=try exact jz) only [go_sem,z3,t4,t5,t6,t11,t42,t43,t44,t48,t49,t50]
       exact ⟨r.length - (l+1),jb,l+1,bs',rfl,jb,rfl,h1,h2,h3⟩
      ·have hb:(ix r l).b=false:=by simpa using hb
       have hS1:xK f r (l+1)=(aK (xK f r l).1 kk ((xK f r l).1 kk - (xK f r l).1 kk),(xK f r l).2 ++ [(Int.ofNat kk,(xK f r l).1 kk)]):=by
        rw [hsucc,afG (show ¬ (ix r l).k = -1 from hk1) hkk,hb]
        rfl
       simp (maxSteps:=9^9) (disch:=try exact jz) only [go_sem,z3,t4,t5,t6,t11,t42,t43,t44,t48,t49,t50,wR,hkk,kN,hb,hfit,hcz2,hraw,au p64,aX p64,p64]
       refine fin _ hcz hS1 (by have hFe:=fE.refl (ex:=[σ1.ah+1]) hf4.wf;repeat (first|assumption|exact fE.refl (by assumption)|exact fE.up (by assumption) (by first|omega|(dsimp only;omega))|exact fE.up (fE.refl (by assumption)) (by first|omega|(dsimp only;omega))|refine fE.set1 ?_ (by first|(left;omega)|(left;dsimp only;omega)|(right;simp)) (by first|omega|(dsimp only;omega))|refine fE.yV ?_ (by first|(left;omega)|(left;dsimp only;omega)|(right;simp))|refine fE.Gv ?_ (by first|(left;omega)|(left;dsimp only;omega)|(right;simp))|refine fE.MB ?_ (by first|omega|(dsimp only;omega)))) (aA _ _ _) fun v σ6 bs' h1 h2 h3=>?_
       simp (maxSteps:=9^9) (disch:=try exact jz) only [go_sem,z3,t4,t5,t6,t11,t42,t43,t44,t48,t49,t50]
       exact ⟨r.length - (l+1),jb,l+1,bs',rfl,jb,rfl,h1,h2,h3⟩
    ·have:l=r.length:=jb
     subst this
     simp (maxSteps:=9^9) (disch:=try exact jz) only [go_sem,z3,true_and]
     exact ⟨bs,t4,t5,t6,t11,t42,t43,t44,p64,Vp,hf4⟩
   ·rintro _ tm σ4 ⟨rfl,bs,t4,t5,t6,t11,t42,t43,t44,p64,Vp,hf4⟩
    have Aw:=hf4.le
    have hlb:=hN.l1
    have KT:=hN.l2
    have aqA:=Vp.lt hf4.wf
    have atv:fE [σ1.ah,σ1.ah+1] σ2 σ4:=hf.to' hf4 kc
    have p54:=hf4.get hf.wf kc p5
    have hN4:=NF.mono hN (fun j _=>QG _ _ j) (fun b h1 h2=>hf4.old b h2 (by simp;omega)) jp
    have hg4:=hN4.g
    have hLG:=QH U fun i=>ix (pJ cs a).2 i
    have Oj:=Vp.b
    unfold jC at Oj
    simp (maxSteps:=9^9) (disch:=try exact jz) only [go_sem,z3,t4,t5,t6,t11,t42,t43,t44,au p54,au Oj,p54,hg4,hMk]
    refine ⟨a.length - (j+1),jb,j+1,σ4.ah+1,aK U j (aT (xK f r r.length).2.length bs),rfl,jb,rfl,rfl,by rw [p64,hS],?_,?_⟩
    ·refine hN.push (U:=U) hf4.wf hL Vp jp jb (fun b h1 h2=>hf4.old b h2 (by simp;omega)) jb jb ?_ fun c h1 h2 h3=>?_
     ·rw [ak _ _ _ _ jb,aA];rfl
     ·rw [ak _ _ _ _ jb,ak _ _ _ _ jb,gJ _ _ _ _ h3,ak _ _ _ _ jb]
    ·repeat (first|assumption|exact fE.refl (by assumption)|exact fE.up (by assumption) (by first|omega|(dsimp only;omega))|exact fE.up (fE.refl (by assumption)) (by first|omega|(dsimp only;omega))|refine fE.set1 ?_ (by first|(left;omega)|(left;dsimp only;omega)|(right;simp)) (by first|omega|(dsimp only;omega))|refine fE.yV ?_ (by first|(left;omega)|(left;dsimp only;omega)|(right;simp))|refine fE.Gv ?_ (by first|(left;omega)|(left;dsimp only;omega)|(right;simp))|refine fE.MB ?_ (by first|omega|(dsimp only;omega)))
  ·have:j=a.length:=jb
   subst this
   simp (maxSteps:=9^9) (disch:=try exact jz) only [go_sem,z3,true_and]
   exact ⟨lb,U,t4,t5,t6,p5,by rw [← DW];exact p6,hN,hf⟩
 rintro _ tm σ3 ⟨rfl,lb,U,t4,t5,t6,p5,p6,hN,hf3⟩
 have hF3:Fr σ σ3:=hf3.to hF2 (by simp;omega)
 have Aw:=hf3.le
 have q23:=hf3.get hf2.wf (by simp;omega) q2
 have hP : ∀ t∈a,∀ x∈t,x.k = -1∨0≤x.k∧x.k<cs.length:=fun t ht x hx=>(hO.p t ht x hx).1
 have hM3:wM σ3.h mv (jY a).length (fun i=>[MN (jY a) i]) 1 3 (σ.ah+1+1+1) σ1.ah:=by
  rw [UL]
  refine wM.congr (wM.mono hM (fun b h1 h2=>?_) jp jp) fun i hi=>by rw [ajj hP hi]
  rw [hf3.old b jb (by simp;omega),hf2.old b h2]
 have hMl:=hM3.len
 have hMm:XC (fun b=>σ.ah+1+1+1≤b∧b<σ1.ah) σ3.h mv (jY a):=wM.hlp hM3 (fun _=>rfl) jj (fun _ _=>rfl) fun b h1 h2=>⟨h1,h2⟩
 have hml:=KQ hP
 have atw:=Fr.refl hF3.wf
 have atx:=hF3.wf.lt p6
 have hAc:=(afA (n:=cs.length) hPc hO.c hO.p).1
 simp (maxSteps:=9^9) (disch:=try exact jz) only [go_sem,z3,t4,t5,t6,au p5,hMk,hMl]
 refine bM.mono (Q:=fun ex tm σ4=>ex = .exit 6∧∃ bs,Tr.aj tm 4 = .c (.ptr (σ.ah+1+1) 0)∧Tr.aj tm 5 = .c (.ptr σ1.ah 0)∧Tr.aj tm 15 = .c (.ptr σ3.ah 0)∧TS σ4 σ3.ah bs (vT (jY a) (lsA cs a).1)∧Fr σ3 σ4)
  (aN (fun q tm σ4=>∃ i bs,q=(jY a).length - i∧i≤(jY a).length∧Tr.aj tm 4 = .c (.ptr (σ.ah+1+1) 0)∧Tr.aj tm 5 = .c (.ptr σ1.ah 0)∧Tr.aj tm 6 = .c (.sl (σ1.ah+1) 0 cs.length (.ex cs.length))∧Tr.aj tm 15 = .c (.ptr σ3.ah 0)∧Tr.aj tm 97 = .c mv∧Tr.aj tm 98 = .c (.int .i64 (.ofNat (jY a).length))∧Tr.aj tm 99 = .c (.int .i64 (.ofNat i))∧TS σ4 σ3.ah bs (vT ((jY a).take i) (lsA cs a).1)∧Fr σ3 σ4) (jY a).length ?_ ?_) ?_
 ·refine ⟨0,σ3.ah+1,jb,jb,?_⟩
  simp (maxSteps:=9^9) (disch:=try exact jz) only [go_sem,z3,t4,t5,t6,true_and]
  exact ⟨⟨aA _ _ _,rfl,Nat.lt_succ_self _,.inl rfl⟩,fr⟩
 ·rintro q tm σ4 ⟨i,bs,rfl,hi,t4,t5,t6,t15,t97,BM,BN,Vp,hf4⟩
  have Ar:=hf4.le
  simp (maxSteps:=9^9) (disch:=try exact jz) only [go_sem,z3,t4,t5,t6,t15,t97,BM,BN,aP]
  refine aI (fun hlt=>?_) (fun hlt=>?_)
  ·obtain ⟨b8,o8,c8,rfl,uh⟩:=(hMm.hc).pos jb
   have uh:=hf4.ld hF3.wf (uh i hlt)
   unfold MN at uh
   have hmi:=jQ hlt
   have hin:ix (jY a) i<cs.length:=by
    have h1:=(tY hP).mp hmi
    have:=pY hP ((ix (jY a) i:Nat):Int) (qC.mpr ⟨jb,h1⟩)
    omega
   have p64:=hf4.get hF3.wf p6
   have hll:(vT ((jY a).take i) (lsA cs a).1).length=i:=by unfold vT;rw [List.length_map,List.length_take];omega
   have hsz:Sz (aU (vT ((jY a).take i) (lsA cs a).1)):=QJ (n:=cs.length) hA (fun p hp=>by
    obtain ⟨k,hk,rfl⟩:=List.mem_map.mp hp
    have h1:=(tY hP).mp (List.mem_of_mem_take hk)
    exact ⟨.inr (pY hP k (qC.mpr ⟨jb,h1⟩)),hAc k⟩) jb
   have hcz:=KR hA (hAc (ix (jY a) i))
   simp (maxSteps:=9^9) (disch:=try exact jz) only [go_sem,z3,t4,t5,t6,t15,t97,BM,BN,uh,au p64]
   refine (XL hf4.wf Vp jb _ _ hsz hcz).mono ?_
   rintro _ σ6 ⟨⟨bs',afL⟩,hlo,hW6,zI⟩
   simp (maxSteps:=9^9) (disch:=try exact jz) only [go_sem,z3,t4,t5,t6,t15,t97,BM,BN]
   refine ⟨(jY a).length - (i+1),jb,i+1,bs',rfl,jb,rfl,by rw [abV _ _ hlt];exact afL,jb,hW6,fun b hb=>by rw [hlo b hb];exact hf4.old b hb⟩
  ·have:i=(jY a).length:=jb
   subst this
   simp (maxSteps:=9^9) (disch:=try exact jz) only [go_sem,z3,true_and]
   exact ⟨bs,t4,t5,t15,by rw [List.take_length] at Vp;exact Vp,hf4⟩
 rintro _ tm σ4 ⟨rfl,bs,t4,t5,t15,Vp,hf4⟩
 have Ar:=hf4.le
 have hlb:=hN.l1
 have KT:=hN.l2
 have aqA:=Vp.lt hf4.wf
 have p54:=hf4.get hF3.wf p5
 have q24:=hf4.get hF3.wf q23
 have hN4:=NF.mono hN (fun j _=>QG _ _ j) (fun b h1 h2=>hf4.old b h2) jp
 have hg4:=hN4.g
 have hLG:=QH U fun i=>ix (pJ cs a).2 i
 have Oj:=Vp.b
 have hL:ix (pJ cs a).2 a.length=vT (jY a) (lsA cs a).1:=by
  have h9:=xM cs a a.length jp
  rw [DW] at h9
  unfold pJ
  conv=>lhs;rw [← h9]
  exact fO _ _
 have uG:=hF3.trans hf4
 unfold jC at Oj
 simp (maxSteps:=9^9) (disch:=try exact jz) only [go_sem,z3,t4,t5,t15,au p54,au Oj,p54,hg4,hMk,aX q24,q24]
 have hN5:=hN.push (U:=U) (n':=σ4.ah+1+1) (nx:=σ4.ah+1) hf4.wf hL Vp jp jb (fun b h1 h2=>hf4.old b h2) jb jb (h':=hset (hset (hset (yV a.length (hset σ4.h σ4.ah ⟨[aT (vT (jY a) (lsA cs a).1).length bs,.bool (rn (aU (vT (jY a) (lsA cs a).1))),.str (rs (aU (vT (jY a) (lsA cs a).1))),.str (rd (aU (vT (jY a) (lsA cs a).1)))],none⟩) lb) (σ4.ah+1) ⟨bH a.length (UM U fun i=>ix (pJ cs a).2 i) ++ [aT (vT (jY a) (lsA cs a).1).length bs,.bool (rn (aU (vT (jY a) (lsA cs a).1))),.str (rs (aU (vT (jY a) (lsA cs a).1))),.str (rd (aU (vT (jY a) (lsA cs a).1)))],some (4,156)⟩) σ1.ah ⟨[mv,.sl (σ4.ah+1) 0 (a.length+1) .opn],none⟩) (σ.ah+1+1) ⟨[mv,.sl (σ4.ah+1) 0 (a.length+1) .opn],none⟩)
  (by rw [ak _ _ _ _ jb,ak _ _ _ _ jb,aA];rfl) (fun c h1 h2 h3=>by rw [ak _ _ _ _ jb,ak _ _ _ _ jb,ak _ _ _ _ jb,gJ _ _ _ _ h3,ak _ _ _ _ jb])
 have hll:(pJ cs a).2.length=a.length+1:=by
  have h9:=xM cs a a.length jp
  rw [DW] at h9
  unfold pJ
  show ((lsA cs a).2 ++ [_]).length=_
  rw [List.length_append,h9];rfl
 refine ⟨⟨_,_,rfl,?_,?_⟩,fr⟩
 ·refine bW.keep hMm (fun b hb=>?_) fun b hb=>⟨jb,by show b<σ4.ah+1+1;omega⟩
  rw [ak _ _ _ _ jb,ak _ _ _ _ jb,ak _ _ _ _ jb,gJ _ _ _ _ jb,ak _ _ _ _ jb,hf4.old b jb]
 ·exact (hN5.anw hll fun i _=>rfl).keep (fun _ _=>rfl) fun b hb=>⟨jb,hb.2⟩
end Go.Proofs.Xe
