/- insolvencylaw19.tiny; the law ClearingDerivative, in the dF words. -/
import Derived.Test.YtjonjhcaniinaaaGreatDoorZ39
import Derived.Test.YtjonjhcaniinaaaGreatDoorZ37
set_option linter.all false
set_option maxRecDepth 100000
set_option maxHeartbeats 8000000
namespace Go.Proofs.Xe
open Go.RowKit Go.Proofs.Ins
/-! ### A number that is less than every distance -/
def Ve:Nat:=256 ^ 60
def uy:Rat:=1/(Ve:Rat)
theorem oI {D:Nat} (h:0<D):(0:Rat)<(D:Rat):=by
 have h1:((0:Nat):Rat)≤(D:Rat):=Rat.natCast_le_natCast.mpr (Nat.zero_le _)
 have h2:=mM h
 have h1:(0:Rat)≤(D:Rat):=h1
 grind
theorem dY.ge {D:Nat} {a:Rat} (hD:0<D) (h:dY D a) (h0:0<a):1≤a*(D:Rat):=by
 obtain ⟨k,rfl⟩:=h
 have hne:=mM hD
 have e:(k:Rat)/(D:Rat)*(D:Rat)=(k:Rat):=by grind
 have h1:=Rat.mul_pos h0 (oI hD)
 rw [e] at h1 ⊢
 have h2:=Rat.intCast_pos.mp h1
 have h3:((1:Int):Rat)≤(k:Rat):=Rat.intCast_le_intCast.mpr jb
 exact h3
theorem Ox {s a b:Rat} (hb:0<b) (h:s*b≤a):s≤a/b:=by
 refine Rat.not_lt.mp fun hlt=>?_
 have h1:=Rat.mul_lt_mul_of_pos_right hlt hb
 rw [Rat.div_mul_cancel kf] at h1
 grind
theorem lS:0<Ve:=Nat.pow_pos jj
theorem ZX {a b:Rat} {D:Nat} (hD:0<D) (hD2:D≤256 ^ 40) (ha:dY D a) (h0:0<a) (hb:0<b) (hb2:b≤((256 ^ 10:Nat):Rat)):uy≤a/b:=by
 have h1:=ha.ge hD h0
 have hN:=oI lS
 have h2:((D:Nat):Rat)≤((256 ^ 40:Nat):Rat):=Rat.natCast_le_natCast.mpr hD2
 have h3:((256 ^ 10*256 ^ 40:Nat):Rat)≤(Ve:Rat):=Rat.natCast_le_natCast.mpr (by
  unfold Ve
  rw [← Nat.pow_add]
  exact Nat.pow_le_pow_right jj jj)
 rw [Rat.natCast_mul] at h3
 have hK:=oI (D:=256 ^ 10) (Nat.pow_pos jj)
 generalize ((256 ^ 10:Nat):Rat)=K at *
 generalize ((256 ^ 40:Nat):Rat)=E at *
 unfold uy
 generalize ((Ve:Nat):Rat)=N at *
 generalize ((D:Nat):Rat)=d at *
 have h4:=Rat.mul_le_mul_of_nonneg_left h2 (Rat.le_of_lt h0)
 have h5:1≤a*E:=Rat.le_trans h1 h4
 have h6:=Rat.mul_le_mul_of_nonneg_left h5 (Rat.le_of_lt hK)
 have h7:=Rat.mul_le_mul_of_nonneg_left h3 (Rat.le_of_lt h0)
 have h8:b≤a*N:=by grind
 refine Ox hb ?_
 have e:1/N*b=b/N:=by grind
 rw [e]
 refine Rat.not_lt.mp fun hlt=>?_
 have h9:=Rat.mul_lt_mul_of_pos_right hlt hN
 rw [Rat.div_mul_cancel kf] at h9
 grind
theorem agz {A B:Nat} (hB:0<B) (hAB:A ∣ B) : ∀ {l:gZ} {m g:Rat},GH A l→dY B m→wI l m=some g→dY B g
 | [],_,_,_,_,hg=>by cases hg
 | t::l,m,g,h,hm,hg=>by
  have ht:=(zC (h t kc)).dvd hAB hB
  unfold wI at hg
  split at hg
  ·cases hg;exact ht.sub hm
  ·exact agz hB hAB (fun u hu=>h u (by simp [hu])) (hm.sub ht) hg
theorem Vf {A n:Nat} {e:iq} {m:Rat} (h:ED A uQ n e) (hb:EB n e) (h0:0≤m) {p:List Nat×gZ} (hp:p∈e.ps):wU e m p≤1000:=by
 have h4:=zH (f:=rts e m) (v:=1) jj (l:=p.1) (k:=1000) (fun c _=>QF h.rk.D.nn c jj h0) (hb.m p hp).1
 have e1:wU e m p=aF p.1 (rts e m):=rfl
 have e2:((1000:Nat):Rat)=1000:=rfl
 grind
theorem ajK {A n:Nat} {e:iq} {m:Rat} (h:ED A uQ n e) (hb:EB n e) (h0:0≤m) (c:Nat):yx e m c≤1000001:=by
 have h1:aF e.ps (fun p=>jV p.2 (lJ e m p) (wU e m p) c)≤((1000:Nat):Rat)*1000:=zH jj (fun p hp=>Rat.le_trans (QF (h.ps p hp).D.nn c (Qn h.nn h0 p) (ou h.nn h0 p)) (Vf h hb h0 hp)) hb.ps
 have h2:rts e m c≤1:=QF h.rk.D.nn c jj h0
 have e2:((1000:Nat):Rat)=1000:=rfl
 unfold yx
 split <;> grind
theorem ajL {n:Nat} {e:iq} (h:ED 60 30 n e) (hb:EB n e) {x y:Rat} (hx:dY 60 x) (h0:0≤x) (hy:stp e x=some y) : ∃ a b:Rat,y=a/b∧0<a∧dY (60*GN 60 e x) a∧0<b∧b≤1000:=by
 have hp:=Nat.mul_pos (by decide:0<60) (DT jj h h0)
 have hp1:=Nat.mul_pos (by decide:0<60) (qF jj h.rk.D h0)
 unfold stp at hy
 split at hy
 ·next g hg =>
  cases hy
  rcases Ia e x e.ps g with e1|⟨p,hpp,d,h1,h2,h3⟩
  ·rw [e1]
   exact ⟨g,1,by grind,Ql hg,(agz jj (Nat.dvd_refl _) h.rk.D hx hg).dvd (Nat.dvd_mul_right _ _) hp,jj,jj⟩
  ·rw [h3]
   refine ⟨d,_,rfl,Ql h1,(agz hp1 (Nat.dvd_mul_right _ _) (h.ps p hpp).D (ZA jj jj (Nat.dvd_refl _) h hx h0 p) h1).dvd ?_ hp,h2,Vf h.up hb h0 hpp⟩
   exact Nat.mul_dvd_mul_left _ (Nat.dvd_mul_right _ _)
 ·cases hy
theorem ZY {D:Nat} {W c:Rat} {q r:iJ→Rat} (hW:dY D W) (hc:0≤c) : ∀ (t:List iJ) (Q R:Rat),(∀ l∈t,dY D (q l)∧0≤r l∧r l≤c)→dY D Q→0≤R→∀ v∈abI W q r Q R t,∃ a b:Rat,v=a/b∧0<a∧dY D a∧0<b∧b≤R+(t.length:Rat)*c
 | [],_,_,_,_,_,v,hv=>by cases hv
 | l::t,Q,R,h,hQ,hR,v,hv=>by
  obtain ⟨h1,h2,h3⟩:=h l kc
  have hl:((t.length+1:Nat):Rat)=(t.length:Rat)+1:=Rat.natCast_add _ _
  have ht:(0:Rat)≤(t.length:Rat):=Rat.natCast_le_natCast.mpr (Nat.zero_le t.length)
  have hm:=Rat.mul_nonneg ht hc
  rw [List.length_cons,hl]
  unfold abI at hv
  rcases List.mem_append.mp hv with hv|hv
  ·split at hv
   ·next hh =>
    have e:v=(W - (Q+q l))/(R+r l):=by simpa using hv
    exact ⟨_,_,e,by grind,hW.sub (hQ.add h1),hh.2,by grind⟩
   ·cases hv
  ·obtain ⟨a,b,e,h4,h5,h6,h7⟩:=ZY hW hc t (Q+q l) (R+r l) (fun u hu=>h u (by simp [hu])) (hQ.add h1) kf v hv
   exact ⟨a,b,e,h4,h5,h6,by grind⟩
section
variable {n:Nat} {m:Nat→Rat} {cl:Nat→List C5} {al:Nat→List fK} {dl:List oV}
theorem BG.gok (h:BG n m cl al dl):Vo n (fC (iy n m cl al dl)):=by
 have hgk:Vo (iy n m cl al dl).e.length (fC (iy n m cl al dl)):=QC (UJ h.zero)
 rwa [vV] at hgk
theorem BG.ED' (h:BG n m cl al dl) {i:Nat} (hi:i<n):ED 60 30 ((fC (iy n m cl al dl)).k i) ((fC (iy n m cl al dl)).e i):=by
 show ED 60 30 (ix (iy n m cl al dl).e i).c.length (kK (ix (iy n m cl al dl).e i))
 rw [zL m cl al dl hi];exact h.ed hi
theorem BG.EB' (h:BG n m cl al dl) {i:Nat} (hi:i<n):EB ((fC (iy n m cl al dl)).k i) ((fC (iy n m cl al dl)).e i):=by
 show EB (ix (iy n m cl al dl).e i).c.length (kK (ix (iy n m cl al dl).e i))
 rw [zL m cl al dl hi];exact (h.eb hi).1
theorem BG.Q9 (h:BG n m cl al dl) {x:Nat→Rat} (hx : ∀ i,i<n→0≤x i):0<Yd n (iy n m cl al dl) x∧Yd n (iy n m cl al dl) x≤256 ^ 40:=⟨(Ye h hx).1,Nat.le_trans (Nat.le_of_lt (an9 h hx)) (Nat.pow_le_pow_right jj jj)⟩
theorem BG.gqD (h:BG n m cl al dl) {x:Nat→Rat} (hx : ∀ i,lQ 60 30 (x i)) {l:iJ} (hl:l.1<n):dY (Yd n (iy n m cl al dl) x) (gq (fC (iy n m cl al dl)) x l) :=
 (akD jj jj (Nat.dvd_refl _) (h.ED' hl) (hx l.1).1 (hx l.1).2.1 l.2).dvd (Iq hl) (h.Q9 fun i _=>(hx i).2.1).1
theorem BG.slD (h:BG n m cl al dl) {x:Nat→Rat} (hx : ∀ i,lQ 60 30 (x i)) {i:Nat} (hi:i<n) (c:Nat):dY (Yd n (iy n m cl al dl) x) (yx ((fC (iy n m cl al dl)).e i) (x i) c) :=
 (anp jj (h.ED' hi) (hx i).2.1 c).dvd (Nat.dvd_trans (Nat.dvd_mul_left _ _) (Iq hi)) (h.Q9 fun i _=>(hx i).2.1).1
theorem BG.slB (h:BG n m cl al dl) {x:Nat→Rat} (hx : ∀ i,lQ 60 30 (x i)) {i:Nat} (hi:i<n) (c:Nat):0≤yx ((fC (iy n m cl al dl)).e i) (x i) c∧yx ((fC (iy n m cl al dl)).e i) (x i) c≤1000001 :=
 ⟨H9 (h.ED' hi).nn (hx i).2.1 c,ajK (h.ED' hi).up (h.EB' hi) (hx i).2.1 c⟩
theorem BG.BK (h:BG n m cl al dl) {x d:Nat→Rat} (hx : ∀ i,lQ 60 30 (x i)) (hd : ∀ i,lQ 60 30 (d i)):Ok n (fC (iy n m cl al dl)) x d uy:=by
 have hgk:=h.gok
 have hxn : ∀ i,i<n→0≤x i:=fun i _=>(hx i).2.1
 obtain ⟨p1,p2⟩:=h.Q9 hxn
 have hK:=Rat.natCast_le_natCast.mpr (show 1000000000≤256 ^ 10 by decide)
 have eK:((1000000000:Nat):Rat)=1000000000:=rfl
 rw [eK] at hK
 have ht0:0≤uy:=zl (by decide) (oI lS)
 refine ⟨fun i hi c _=>?_,fun d' hd'=>?_⟩
 ·have hdi:=(hd i).2
  have hs0:=Rat.mul_nonneg ht0 hdi.1
  have hnn:=hgk.nn i hi
  cases ho:stp ((fC (iy n m cl al dl)).e i) (x i) with
  | none =>
   have h1:=((Ut hnn ho hs0).1 c).1
   have h2:=((Ut hnn ho Rat.le_refl).1 c).2
   rw [Rat.add_zero] at h2
   rw [h1,h2];grind
  | some y =>
   refine ai5 hnn (hxn i hi) ho hs0 ?_ c
   obtain ⟨a,b,rfl,h4,h5,h6,h7⟩:=ajL (h.ED' hi) (h.EB' hi) (hx i).1 (hx i).2.1 ho
   refine Ox h6 ?_
   by_cases e:0<d i
   ·have h9:=Rat.mul_le_mul_of_nonneg_left hdi.2 (Rat.le_of_lt h6)
    have h10:=vP (Rat.mul_pos h6 e) (ZX p1 p2 (h5.dvd (Iq hi) p1) h4 (Rat.mul_pos h6 e) (by grind))
    grind
   ·have e0:d i=0:=by grind
    rw [e0];grind
 ·have hl:=fun l hl=>zy hgk hd' (l:=l) hl
  obtain ⟨D,hD,rfl⟩:=List.mem_map.mp hd'
  obtain ⟨j,hj,ej⟩:=List.getElem_of_mem hD
  have hj:j<dl.length:=hj
  have e0:D=ix dl j:=by rw [← ej];exact (dZ hj).symm
  subst e0
  obtain ⟨l4,w,hw⟩:=h.d.2 j hj
  have hW:dY (Yd n (iy n m cl al dl) x) (ix dl j).w.q:=by
   rw [hw,CQ];exact (rY w).1.dvd (Nat.dvd_mul_right _ _) p1
  have hr : ∀ l:iJ,l.1<n→0≤gr (fC (iy n m cl al dl)) x d l∧gr (fC (iy n m cl al dl)) x d l≤30000030:=fun l hl=>by
   obtain ⟨s1,s2⟩:=h.slB hx hl l.2
   have s3:=(hd l.1).2
   have s4:=Rat.mul_le_mul_of_nonneg_left s3.2 s1
   refine ⟨Rat.mul_nonneg s1 s3.1,?_⟩
   unfold gr;grind
  refine (QA _ 0 0 hl).mp (Zn ht0 (fun l=>?_) _ _ _ Rat.le_refl fun v hv=>?_)
  ·unfold nC;split
   ·next hl=>exact (hr l hl).1
   ·exact Rat.le_refl
  ·obtain ⟨a,b,rfl,h4,h5,h6,h7⟩:=ZY (c:=30000030) hW (by decide) _ 0 0 (fun l hm=>by
    have hl1:=hl l hm
    unfold nC
    rw [if_pos hl1,if_pos hl1]
    exact ⟨h.gqD hx hl1,hr l hl1⟩) (dY.zero _) Rat.le_refl v hv
   have h8:(((ix dl j).l.map vU).length:Rat)≤((4:Nat):Rat):=Rat.natCast_le_natCast.mpr (by rw [List.length_map];exact l4)
   have e4:((4:Nat):Rat)=4:=rfl
   exact ZX p1 p2 h5 h4 h6 (by grind)
theorem BG.lin (h:BG n m cl al dl) {x d:Nat→Rat} (hx : ∀ i,lQ 60 30 (x i)) (hd : ∀ i,lQ 60 30 (d i)) {j:Nat} (hj:j<n):Nc (iy n m cl al dl) (fun i=>x i+uy*d i) j=Nc (iy n m cl al dl) x j+uy*mv n (gM n (fC (iy n m cl al dl)) x) d j:=by
 have hn:=vV n m cl al dl
 have hgk:=h.gok
 have ht0:0≤uy:=zl jj (oI lS)
 have h1:=afz hgk (fun i _=>(hx i).2.1) (fun i _=>(hd i).2.1) ht0 (h.BK hx hd) hj
 have e:jO x d uy=fun i=>x i+uy*d i:=rfl
 rw [e] at h1
 unfold Nc
 rw [hn,h1];grind
theorem BG.asZ (h:BG n m cl al dl) {x:Nat→Rat} (hx : ∀ i,lQ 60 30 (x i)):asf n (gM n (fC (iy n m cl al dl)) x):=by
 have hgk:=h.gok
 have hxn : ∀ i,i<n→0≤x i:=fun i _=>(hx i).2.1
 have hN:=oI lS
 have hp:0<uy:=div_pos jj hN
 refine ⟨fun j i _ hi=>aq3 hgk hxn hi,fun k hk=>?_⟩
 have he : ∀ i,lQ 60 30 (if i=k then (1:Rat) else 0):=fun i=>by
  split
  ·exact ⟨⟨60,by decide +kernel⟩,jj,jj⟩
  ·exact ⟨dY.zero _,jj,jj⟩
 have hen:Nn n fun i=>if i=k then (1:Rat) else 0:=fun i _=>(he i).2.1
 have h1:=ajg hgk hxn (le_step hen (Rat.le_of_lt hp))
 have h2 : ∀ j,j<n→jO x (fun i=>if i=k then 1 else 0) uy j - gG n (fC (iy n m cl al dl)) (jO x (fun i=>if i=k then 1 else 0) uy) j=(x j - gG n (fC (iy n m cl al dl)) x j)+(uy*(if j=k then 1 else 0) - uy*gM n (fC (iy n m cl al dl)) x j k):=fun j hj=>by
  have h3:=afz hgk hxn hen (Rat.le_of_lt hp) (h.BK hx he) hj
  rw [h3,ai1 hk]
  unfold jO;grind
 rw [aS h2,dH,kH,kH,zk,zk,jI (f:=fun j=>if j=k then (1:Rat) else 0) hk fun i _ hne=>if_neg hne,if_pos rfl] at h1
 have h4:=cancel (a:=0) (b:=1 - aB n fun j=>gM n (fC (iy n m cl al dl)) x j k) hp kf
 grind
/-! ### The marginal matrix in numbers -/
theorem agA {D:Nat} {W:Rat} {q r:iJ→Rat} {j:Nat} : ∀ (t:List iJ) {Q R B:Rat},(∀ a∈t,dY D (r a))→dY D R→dY D B→dY D (kZ W q r Q R B t j)
 | [],_,_,_,_,_,_=>dY.zero D
 | a::t,Q,R,B,hr,hR,hB=>by
  have ho:dY D (mJ W (Q+q a) (R+r a)):=by
   unfold mJ
   split
   ·exact hR.add (hr a kc)
   ·exact dY.zero D
  unfold kZ
  refine dY.add ?_ (agA t (fun b hb=>hr b (by simp [hb])) (hR.add (hr a kc)) ho)
  split
  ·exact ho.sub hB
  ·exact dY.zero D
theorem LJ {D:Nat} {f:Nat→Rat} : ∀ {n:Nat},(∀ i,i<n→dY D (f i))→dY D (aB n f)
 | 0,_=>dY.zero D
 | n+1,h=>(LJ fun i hi=>h i jb).add (h n jb)
theorem BG.gMD (h:BG n m cl al dl) {x:Nat→Rat} (hx : ∀ i,lQ 60 30 (x i)) {j i:Nat} (hi:i<n):dY (Yd n (iy n m cl al dl) x) (gM n (fC (iy n m cl al dl)) x j i):=by
 have hn:=vV n m cl al dl
 have hgk:=h.gok
 have hgs : ∀ l:iJ,l.1<n→dY (Yd n (iy n m cl al dl) x) (gs (fC (iy n m cl al dl)) x i l):=fun l hl=>by
  unfold gs
  split
  ·exact h.slD hx hl l.2
  ·exact dY.zero _
 unfold gM
 refine dY.add (LJ fun c _=>?_) (dY.sum fun d hd=>?_)
 ·split
  ·exact hgs (i,c) hi
  ·exact dY.zero _
 ·have hl:=fun l hl=>hgs l (zy hgk hd (l:=l) hl)
  have hs:=dY.sum hl
  unfold dM
  refine dY.add ?_ (agA _ hl (dY.zero _) (dY.zero _))
  split
  ·refine hs.sub ?_
   unfold mJ
   split
   ·exact hs
   ·exact dY.zero _
  ·exact dY.zero _
theorem dY.mul {A B:Nat} {p q:Rat} (hA:0<A) (hB:0<B) (hp:dY A p) (hq:dY B q):dY (A*B) (p*q):=by
 obtain ⟨a,rfl⟩:=hp
 obtain ⟨b,rfl⟩:=hq
 refine ⟨a*b,?_⟩
 have h1:=mM hA
 have h2:=mM hB
 rw [Rat.intCast_mul,Rat.natCast_mul]
 grind
structure as1 (n:Nat) (x d a b:Nat→Rat) (M:Nat→Nat→Rat):Prop where
 zx : ∀ i,i<n→Sz (x i)
 zd : ∀ i,i<n→Sz (d i)
 zt:Sz uy
 zh : ∀ i,i<n→Sz (uy*d i)
 zM : ∀ j i,j<n→i<n→Sz (M j i)
 zp : ∀ j i,j<n→i<n→Sz (M j i*d i)
 zs : ∀ j i,j<n→i≤n→Sz (aB i fun i=>M j i*d i)
 zc : ∀ j i,j<n→i≤n→Sz (aB i fun i=>M i j)
 zg : ∀ j,j<n→Sz (uy*aB n fun i=>M j i*d i)
 za : ∀ i,i<n→Sz (a i)
 nn : ∀ j i,j<n→i<n→0≤M j i
 col : ∀ j,j<n→aB n (fun i=>M i j)≤1
 eq : ∀ j,j<n→a j+uy*(aB n fun i=>M j i*d i)=b j
theorem BG.der (h:BG n m cl al dl) {x d:Nat→Rat} (hx : ∀ i,lQ 60 30 (x i)) (hd : ∀ i,lQ 60 30 (d i)):as1 n x d (Nc (iy n m cl al dl) x) (Nc (iy n m cl al dl) fun i=>x i+uy*d i) (gM n (fC (iy n m cl al dl)) x):=by
 have hn:=vV n m cl al dl
 have hn4:=h.n4
 have hM:=h.asZ hx
 have hxn : ∀ i,i<n→0≤x i:=fun i _=>(hx i).2.1
 have hmap:=h.map (x:=x) fun i _=>(hx i).sm
 obtain ⟨p1,p2⟩:=h.Q9 hxn
 have hgM:=fun j i (hi:i<n)=>h.gMD hx (j:=j) hi
 have h60:60 ∣ Yd n (iy n m cl al dl) x:=Nat.dvd_mul_right _ _
 generalize hD1:Yd n (iy n m cl al dl) x=D1 at *
 have hE:Ae (D1*D1*Ve):=by
  refine ⟨Nat.mul_pos (Nat.mul_pos p1 p1) lS,?_⟩
  have h1:D1*D1*Ve≤256 ^ 40*256 ^ 40*256 ^ 60:=Nat.mul_le_mul_right _ (Nat.mul_le_mul p2 p2)
  rw [← Nat.pow_add,← Nat.pow_add] at h1
  exact Nat.lt_of_le_of_lt h1 (Nat.pow_lt_pow_right jj jj)
 have d1:D1 ∣ D1*D1*Ve:=Nat.dvd_trans (Nat.dvd_mul_right _ _) (Nat.dvd_mul_right _ _)
 have hv:=KL (k:=100000) jj
 have ev:((100000:Nat):Rat)=100000:=rfl
 rw [ev] at hv
 have hu:=pK
 have hN:=oI lS
 have ht0:0≤uy:=zl jj hN
 have ht1:uy≤1:=ng hN (Rat.natCast_le_natCast.mpr (show 1≤Ve from lS))
 have htD:dY Ve uy:=⟨1,rfl⟩
 have hxD : ∀ i,dY D1 (x i):=fun i=>(hx i).1.dvd h60 p1
 have zu : ∀ i,dY D1 (d i):=fun i=>(hd i).1.dvd h60 p1
 have hM1 : ∀ j i,j<n→i<n→gM n (fC (iy n m cl al dl)) x j i≤1:=fun j i hj hi=>Rat.le_trans (Gg (f:=fun j=>gM n (fC (iy n m cl al dl)) x j i) hj fun k hk=>hM.nn k i hk hi) (hM.le i hi)
 have sz : ∀ {q:Rat},dY (D1*D1*Ve) q→0≤q→q≤100000→Sz q:=fun hq h0 h1=>(nK hE (Nat.dvd_refl _) hq h0 kf).sz hE jb
 have hpD : ∀ j i,i<n→dY (D1*D1) (gM n (fC (iy n m cl al dl)) x j i*d i):=fun j i hi=>dY.mul p1 p1 (hgM j i hi) (zu i)
 have hp0 : ∀ j i,j<n→i<n→0≤gM n (fC (iy n m cl al dl)) x j i*d i∧gM n (fC (iy n m cl al dl)) x j i*d i≤30:=fun j i hj hi=>by
  have h1:=hM.nn j i hj hi
  have h2:=hM1 j i hj hi
  have h3:=(hd i).2
  have h4:=Rat.mul_nonneg h1 h3.1
  have h5:=Rat.mul_le_mul_of_nonneg_right h2 h3.1
  exact ⟨h4,by grind⟩
 have hs : ∀ j i,j<n→i≤n→0≤aB i (fun i=>gM n (fC (iy n m cl al dl)) x j i*d i)∧aB i (fun i=>gM n (fC (iy n m cl al dl)) x j i*d i)≤120:=fun j i hj hi=>by
  refine ⟨H7 fun k hk=>(hp0 j k hj jb).1,?_⟩
  have h1:=uZ (n:=i) (f:=fun i=>gM n (fC (iy n m cl al dl)) x j i*d i) (g:=fun _=>30*1) fun k hk=>by have:=(hp0 j k hj jb).2;grind
  have h2 : ∀ k,k≤4→aB k (fun _=>(30:Rat)*1)≤120:=fun k hk=>by
   have:k=0∨k=1∨k=2∨k=3∨k=4:=jb
   rcases this with rfl|rfl|rfl|rfl|rfl <;> decide +kernel
  exact Rat.le_trans h1 (h2 i jb)
 refine ⟨fun i hi=>sz ((hxD i).dvd d1 hE.1) (hx i).2.1 (by have:=(hx i).2.2;grind),fun i hi=>sz ((zu i).dvd d1 hE.1) (hd i).2.1 (by have:=(hd i).2.2;grind),sz (htD.dvd (Nat.dvd_mul_left _ _) hE.1) ht0 kf,fun i hi=>?_,fun j i hj hi=>sz ((hgM j i hi).dvd d1 hE.1) (hM.nn j i hj hi) (by have:=hM1 j i hj hi;grind),fun j i hj hi=>sz ((hpD j i hi).dvd (Nat.dvd_mul_right _ _) hE.1) (hp0 j i hj hi).1 (by have:=(hp0 j i hj hi).2;grind),fun j i hj hi=>sz ((LJ fun k hk=>hpD j k jb).dvd (Nat.dvd_mul_right _ _) hE.1) (hs j i hj hi).1 (by have:=(hs j i hj hi).2;grind),fun j i hj hi=>?_,fun j hj=>?_,fun i hi=>?_,hM.nn,hM.le,fun j hj=>(h.lin hx hd hj).symm⟩
 ·have h3:=(hd i).2
  have h4:=Rat.mul_nonneg ht0 h3.1
  have h5:=Rat.mul_le_mul_of_nonneg_right ht1 h3.1
  refine sz ?_ h4 kf
  rw [Rat.mul_comm]
  exact (dY.mul p1 lS (zu i) htD).dvd (by rw [Nat.mul_assoc];exact Nat.dvd_mul_left _ _) hE.1
 ·have h1:aB i (fun i=>gM n (fC (iy n m cl al dl)) x i j)≤aB n fun i=>gM n (fC (iy n m cl al dl)) x i j:=by
   obtain ⟨k,rfl⟩ : ∃ k,n=i+k:=⟨n - i,jb⟩
   clear hi
   have : ∀ k',k'≤k→aB i (fun i'=>gM (i+k) (fC (iy (i+k) m cl al dl)) x i' j)≤aB (i+k') fun i'=>gM (i+k) (fC (iy (i+k) m cl al dl)) x i' j:=fun k'=>by
    induction k' with
    | zero=>intro _;exact Rat.le_refl
    | succ k' ih =>
     intro hk
     have h1:=ih jb
     have h2:=hM.nn (i+k') j jb hj
     show _≤aB (i+k') _+_
     grind
   exact this k jp
  have h2:=hM.le j hj
  exact sz ((LJ fun k hk=>hgM k j hj).dvd d1 hE.1) (H7 fun k hk=>hM.nn k j jb hj) kf
 ·obtain ⟨h1,h2⟩:=hs j n hj jp
  have h4:=Rat.mul_nonneg ht0 h1
  have h5:=Rat.mul_le_mul_of_nonneg_right ht1 h1
  refine sz ?_ h4 kf
  rw [Rat.mul_comm]
  exact dY.mul (Nat.mul_pos p1 p1) lS (LJ fun k hk=>hpD j k hk) htD
 ·have h1:=ajJ hmap (j:=i) (by rw [hn];exact hi)
  have h2:=QW
  have hD:Ae D1:=by rw [← hD1];exact Ye h hxn
  exact (h1.mono (l:=40004004) (by rw [hn];omega)).sz hD jb
end
structure aq4 (A D:Nat) (g:gK) (x:Nat→Rat):Prop where
 M:X7 A D g x
 r : ∀ i,i<g.e.length→ROk D (kK (ix g.e i)) (x i)
 s : ∀ i,i<g.e.length→∀ c,c<kE g.e i→0≤Rz g x i c∧Zk D 1 (Rz g x i c)
theorem Yf {σ:St} (hW:WF σ) {p p' : Nat→Prop} {ev dv v:B} {g:gK} (hg:qB p σ.h ev dv g) {x:Nat→Rat} (hv:nD p' σ.h v g.e.length x) {A D:Nat} (hN:aq4 A D g x) :
  aO EN 20 [.agg [ev,dv],.c v] σ fun r σ'=>(∃ mb bs hi,r = .cZ (.c (.sl mb 0 g.e.length (.ex g.e.length))) (.cZ (.c (.int .i64 (.ofNat 0))) .tnil)∧σ.ah≤mb∧hi≤σ'.ah∧oH σ'.h mb g.e.length (rC (gM g.e.length (fC g) x)) bs (mb+1) hi)∧Fr σ σ':=by
 refine bF (mY.o _ _) mY.h ?_
 unfold mY
 dsimp only
 have hM:=hN.M
 have hek:=hg.e.kn
 have hdk:=hg.d.kn
 have hn:=hM.B.n
 have hFr:=Fr.refl hW
 simp (maxSteps:=9^9) (disch:=try exact jz) only [go_sem,z3,hek,hdk]
 refine aO.st (Fr σ) (fr) fun hF=>?_
 refine (ZP hF.wf (hg.fr hW hF) hM.s hM.z (bW.fr hW hF hv) hM.x hn).mono ?_
 rintro _ σ2 ⟨rfl,hf2⟩
 have hF2:=hF.trans hf2
 have q0:σ2.h σ.ah=some ⟨[ev,dv],none⟩:=hf2.get hF.wf (aA _ _ _)
 simp (maxSteps:=9^9) (disch:=try exact jz) only [go_sem,z3,au q0,hek,hdk]
 refine (ZJ hf2.wf g (hg.fr hW hF2) hM.a hM.B).mono ?_
 rintro _ σ3 ⟨⟨sb,rfl,hS⟩,hf3⟩
 have hF3:=hF2.trans hf3
 simp (maxSteps:=9^9) (disch:=try exact jz) only [go_sem,z3]
 refine (U5 hf3.wf (bW.fr hW hF3 hv) hn fun i hi=>(hM.x i hi).2).mono ?_
 rintro _ σ4 ⟨⟨mb,rfl,hmb,aqR,aiT⟩,hf4⟩
 have uG:=hF3.trans hf4
 simp (maxSteps:=9^9) (disch:=try exact jz) only [go_sem,z3]
 refine (anV hf4.wf (hS.fr hf4) hmb ⟨hM.N,hN.r,hN.s⟩).mono ?_
 rintro _ σ5 ⟨⟨Dv,Sv,rfl,h1,h2⟩,hf5⟩
 have jX:=uG.trans hf5
 have k1:=h1.kn
 have k2:=h2.kn
 simp (maxSteps:=9^9) (disch:=try exact jz) only [go_sem,z3,k1,k2]
 refine (acd hf5.wf ((hS.fr hf4).fr hf5) h1 h2 ⟨hM.N,hN.r,hN.s⟩).mono ?_
 rintro _ σ6 ⟨⟨b,bs,hi,rfl,hb1,hb2,as2⟩,lT⟩
 have Ar:=jX.le
 simp (maxSteps:=9^9) (disch:=try exact jz) only [go_sem,z3]
 exact ⟨⟨b,bs,hi,rfl,jb,hb2,as2⟩,jX.trans lT⟩
section
variable {n:Nat} {m:Nat→Rat} {cl:Nat→List C5} {al:Nat→List fK} {dl:List oV}
theorem BG.mar (h:BG n m cl al dl) {x:Nat→Rat} (hx : ∀ i,lQ 60 30 (x i)):aq4 60 (Yd n (iy n m cl al dl) x) (iy n m cl al dl) x:=by
 have hn:=vV n m cl al dl
 have hD:=Ye h (x:=x) fun i _=>(hx i).2.1
 have hv:=KL (k:=1000001) jj
 have ev:((1000001:Nat):Rat)=1000001:=rfl
 rw [ev] at hv
 refine ⟨h.map fun i _=>(hx i).sm,fun i hi=>?_,fun i hi c _=>?_⟩
 ·rw [hn] at hi
  exact anv jj jj (Nat.dvd_refl _) hD (Iq hi) (h.ED' hi).up (h.EB' hi) (hx i).1 (hx i).2.1 (akL (hx i))
 ·rw [hn] at hi
  obtain ⟨h1,h2⟩:=h.slB hx hi c
  exact ⟨h1,nK hD (Nat.dvd_refl _) (h.slD hx hi c) h1 (Rat.le_trans h2 hv)⟩
theorem BG.as3 (h:BG n m cl al dl) {x d:Nat→Rat} (hx : ∀ i,lQ 60 30 (x i)) (hd : ∀ i,lQ 60 30 (d i)):X7 60 (bgB (60*Ve) n (iy n m cl al dl) fun i=>x i+uy*d i) (iy n m cl al dl) fun i=>x i+uy*d i:=by
 have hN:=oI lS
 have ht0:0≤uy:=zl (by decide) hN
 have ht1:uy≤1:=ng hN (Rat.natCast_le_natCast.mpr (show 1≤Ve from lS))
 have htD:dY Ve uy:=⟨1,rfl⟩
 have hp:=Nat.mul_pos (show 0<60 by decide) lS
 have hb:60*Ve≤256 ^ 100:=by
  have h1:60*Ve≤256 ^ 1*256 ^ 60:=Nat.mul_le_mul_right _ (by decide)
  rw [← Nat.pow_add] at h1
  exact Nat.le_trans h1 (Nat.pow_le_pow_right (by decide) (by decide))
 refine h.aq2 hp (Nat.dvd_mul_right _ _) hb fun i _=>?_
 have h3:=(hd i).2
 have h4:=Rat.mul_nonneg ht0 h3.1
 have h5:=Rat.mul_le_mul_of_nonneg_right ht1 h3.1
 have h6:=(hx i).2
 refine ⟨((hx i).1.dvd (Nat.dvd_mul_right _ _) hp).add ?_,by grind,by grind⟩
 rw [Rat.mul_comm]
 exact dY.mul (by decide) lS (hd i).1 htD
end
section
variable {E:Env} [Xu E] {σ:St} {K:V→St→Prop}
theorem acg (h:H6 13):aO E 13 [] σ K=K (.c (.bool true)) σ :=
 E8 (by
  unfold Qi WQ qA
  first|(unfold abE abD aiY)|(unfold abE aiY)
  simp only [Nat.reduceEqDiff,reduceIte,show awN.contains 13=true from rfl,cond_true,if_pos h])
end
theorem GI.bg {σ σ' : St} {t11 n eb:Nat} {dv:B} {m:Nat→Rat} {cl:Nat→List C5} {bs:Nat→Nat} {A:Nat→B} {al:Nat→List fK} {dl:List oV} (h:GI σ σ' t11 n eb dv m cl bs A al dl) (h0:0<n) (h4:n≤4):BG n m cl al dl:=⟨h0,h4,h.m,h.c,h.a,h.d,h.dg⟩
theorem agB {σ:St} (hW:WF σ) {p p' : Nat→Prop} {ev dv v:B} {n:Nat} {m:Nat→Rat} {cl:Nat→List C5} {al:Nat→List fK} {dl:List oV} (hg:qB p σ.h ev dv ⟨jc n m cl al,dl⟩) {x:Nat→Rat} (hv:nD p' σ.h v n x) {A D:Nat} (hM:X7 A D (iy n m cl al dl) x) :
  aO EN 10 [.agg [ev,dv],.c v] σ fun r σ'=>(∃ u,r = .cZ (.c u) (.cZ (.c (.int .i64 (.ofNat 0))) .tnil)∧nD (Lt σ'.ah) σ'.h u n (Nc (iy n m cl al dl) x))∧Fr σ σ':=by
 have hn:=vV n m cl al dl
 refine (aqQ (g:=iy n m cl al dl) hW hg (by rw [hn];exact hv) hM).mono ?_
 rintro r σ' ⟨⟨b,rfl,hb,h1,h2⟩,hf⟩
 refine ⟨⟨_,rfl,?_⟩,hf⟩
 have h:=fV (p:=Lt σ'.ah) (e:=3) (.ex (iy n m cl al dl).e.length) hb rfl h2 (fun _=>rfl) jj fun _ _=>rfl
 have h:nD (Lt σ'.ah) σ'.h (.sl b 0 (iy n m cl al dl).e.length (.ex (iy n m cl al dl).e.length)) (iy n m cl al dl).e.length (Nc (iy n m cl al dl) x):=h
 rw [hn] at h ⊢
 exact h
def tP:Nat:=1152921504606846976
def tp (k:Nat):Rat:=1/((tP ^ k:Nat):Rat)
theorem Rh (k:Nat):0<tP ^ k:=Nat.pow_pos jj
theorem Ri:(1:Rat)=tp 0:=by
 unfold tp
 rw [Nat.pow_zero,show ((1:Nat):Rat)=1 from rfl]
 show (1:Rat)=1/1
 grind
theorem Z4 (k:Nat):tp k*(1/((Int.ofNat 1152921504606846976:Int):Rat))=tp (k+1):=by
 unfold tp
 have e2:((Int.ofNat 1152921504606846976:Int):Rat)=(tP:Rat):=rfl
 have h1:=mM (Rh k)
 have h2:=mM (D:=tP) jj
 rw [e2,Nat.pow_succ,Rat.natCast_mul]
 grind
theorem agC:tp 8=uy:=by
 unfold tp uy
 have e:tP ^ 8=Ve:=by decide +kernel
 rw [e]
theorem agD {k:Nat} (hk:k≤8):Sz (tp k):=by
 have hp:=oI (Rh k)
 have h1:tP ^ k≤(256 ^ 8) ^ k:=Nat.pow_le_pow_left jj k
 have h2:(256 ^ 8) ^ k≤(256 ^ 8) ^ 8:=Nat.pow_le_pow_right jj hk
 have h3:(256 ^ 8) ^ 8=256 ^ 64:=by rw [← Nat.pow_mul]
 have hD:Ae (tP ^ k):=⟨Rh k,Nat.lt_of_le_of_lt (Nat.le_trans h1 (h3 ▸ h2)) (Nat.pow_lt_pow_right jj jj)⟩
 have hv:=KL (k:=1) jj
 have e1:((1:Nat):Rat)=1:=rfl
 have h0:0≤tp k:=zl jj hp
 have h4:tp k≤1:=ng hp (Rat.natCast_le_natCast.mpr (show 1≤tP ^ k from Rh k))
 have hu:=pK
 exact (nK hD (Nat.dvd_refl _) ⟨1,rfl⟩ h0 (Rat.le_trans h4 (by rw [e1] at hv;exact hv))).sz hD jb
theorem aoa {σ:St} (hW:WF σ):aO EN 21 [] σ fun r σ'=>r = .agg [.bool (rn uy),.str (rs uy),.str (rd uy)]∧Fr σ σ':=by
 refine bF (BA.o _ _) BA.h ?_
 unfold BA
 dsimp only
 have hFr:=Fr.refl hW
 have z1:Sz (1/((Int.ofNat 1152921504606846976:Int):Rat)):=by
  have h:=Z4 0
  rw [← Ri,Rat.one_mul] at h
  rw [h]
  exact agD jj
 have h0:=Ri
 simp (maxSteps:=9^9) (disch:=try exact jz) only [go_sem,z3]
 refine aN (fun q tm σ'=>∃ k,q=8 - k∧k≤8∧Tr.aj tm 0 = .c (.ptr σ.ah 0)∧Tr.aj tm 1 = .c (.ptr (σ.ah+1) 0)∧Tr.aj tm 2 = .c (.int .i64 (.ofNat k))∧σ'.h σ.ah=some ⟨[.bool (rn 0),.str (rs 0),.str (rd 0)],none⟩∧σ'.h (σ.ah+1)=some ⟨[.bool (rn (tp k)),.str (rs (tp k)),.str (rd (tp k))],none⟩∧Fr σ σ'∧σ.ah+1+1≤σ'.ah) 8 ?_ ?_
 ·refine ⟨0,jb,jb,?_⟩
  simp (maxSteps:=9^9) (disch:=try exact jz) only [go_sem,z3,true_and,h0]
  and_intros <;> try (first|rfl|omega|exact fr|exact congrArg (fun q:Rat=>some (Bk.mk [.bool (rn q),.str (rs q),.str (rd q)] none)) h0)
 ·rintro q tm σ' ⟨k,rfl,hk,t0,t1,t2,q0,q1,hf,hnx⟩
  have hle:=hf.le
  simp (maxSteps:=9^9) (disch:=try exact jz) only [go_sem,z3,t0,t1,t2,aP]
  refine aI (fun hlt=>?_) (fun hlt=>?_)
  ·have z2:=agD (k:=k) hk
   have hst:=Z4 k
   have qW:=Fr.refl hf.wf
   simp (maxSteps:=9^9) (disch:=try exact jz) only [go_sem,z3,t0,t1,t2,au q1,q1,aX q1,hst]
   refine ⟨8 - (k+1),jb,k+1,rfl,jb,?_⟩
   and_intros <;> try (first|rfl|omega|exact q0|exact fr)
  ·have:k=8:=jb
   subst this
   rw [agC] at q1
   simp (maxSteps:=9^9) (disch:=try exact jz) only [go_sem,z3,t0,t1,t2,au q1,q1,q0,aX q0]
   first|exact fr|exact ⟨rfl,fr⟩
theorem FB {σ:St} (hW:WF σ) (haw:H6 13) {nm U8 nl np nd nv nw:Nat} (hnm:nm≤255) {cv lv pv dv vv wv:B} (M:Nat→Nat) (L P D:Nat→Nat→Nat) (hcv:HL σ.h 1 cv U8 fun i=>[.int .u16 (.ofNat (M i))]) (hM : ∀ i,i<U8→M i≤65535)
  (hlv:HL σ.h 4 lv nl fun i=>[.int .u16 (.ofNat (L i 0)),.int .u16 (.ofNat (L i 1)),.int .u16 (.ofNat (L i 2)),.int .u16 (.ofNat (L i 3))]) (hL : ∀ i j,i<nl→L i j≤65535) (hnl:nl≤9223372036854775806)
  (hpv:HL σ.h 3 pv np fun i=>[.int .u16 (.ofNat (P i 0)),.int .u16 (.ofNat (P i 1)),.int .u16 (.ofNat (P i 2))]) (hP : ∀ i j,i<np→P i j≤65535) (hnp:np≤9223372036854775806)
  (hdv:HL σ.h 3 dv nd fun i=>[.int .u16 (.ofNat (D i 0)),.int .u16 (.ofNat (D i 1)),.int .u16 (.ofNat (D i 2))]) (hD : ∀ i j,i<nd→D i j≤65535) (hnd:nd≤9223372036854775806)
  (X:Nat→Nat) (hvv:HL σ.h 1 vv nv fun i=>[.int .u16 (.ofNat (X i))]) (hX : ∀ i,i<nv→X i≤65535) (U:Nat→Nat) (hwv:HL σ.h 1 wv nw fun i=>[.int .u16 (.ofNat (U i))]) (hU : ∀ i,i<nw→U i≤65535) :
  aO EN 6 [.c (.int .u8 (.ofNat nm)),.c cv,.c lv,.c pv,.c dv,.c vv,.c wv] σ fun r _=>r = .c (.bool true):=by
 refine bF (jm.o _ _) jm.h ?_
 unfold jm
 dsimp only
 have hAw:=fun (σ:St) (K:V→St→Prop)=>acg (E:=EN) (σ:=σ) (K:=K) haw
 have hvk:=hvv.kn
 have hwk:=hwv.kn
 simp (maxSteps:=9^9) (disch:=try exact jz) only [go_sem,z3]
 refine (ajH hW hnm M L P D hcv hM hlv hL hnl hpv hP hnp hdv hD hnd).mono ?_
 rintro _ σ1 ⟨eb,X9,m,cl,bs,A,al,dl,rfl,hI⟩
 have hs1:1≤1+nm%4:=jb
 have hs4:1+nm%4≤4:=jb
 generalize 1+nm%4=n at *
 have hB:=hI.bg jb hs4
 have hF1:=hI.fr
 have hg1:=hI.g.grp .opn
 have hek:=hg1.e.kn
 have hdk:=hg1.d.kn
 have hlen:lenV (.c (.sl eb 0 n .opn))=some (.c (.int .i64 (.ofNat n))):=rfl
 have hFr:=Fr.refl hF1.wf
 simp (maxSteps:=9^9) (disch:=try exact jz) only [go_sem,z3,hek,hdk]
 refine aO.st (Fr σ1) (fr) fun hF=>?_
 refine (Vb hF.wf hlen hek hdk jb X (hvv.fr hW (hF1.trans hF)) hX).mono ?_
 rintro _ σ2 ⟨⟨xb,rfl,hx⟩,hf2⟩
 have hF2:=hF.trans hf2
 have q2:=hf2.get hF.wf (aA _ _ _)
 simp (maxSteps:=9^9) (disch:=try exact jz) only [go_sem,z3,au q2,hek,hdk]
 refine (Vb hf2.wf hlen hek hdk jb U (hwv.fr hW (hF1.trans hF2)) hU).mono ?_
 rintro _ σ3 ⟨⟨yb,rfl,hd⟩,hf3⟩
 have hF3:=hF2.trans hf3
 have q3:=hf3.get hf2.wf q2
 have hd3:nD (Lt σ3.ah) σ3.h (aT n yb) n (GV nw U):=hd.hlp jj (fun _ _=>rfl) fun b _ h=>h
 have hx2:nD (Lt σ2.ah) σ2.h (aT n xb) n (GV nv X):=hx.hlp jj (fun _ _=>rfl) fun b _ h=>h
 have hx3:nD (Lt σ2.ah) σ3.h (aT n xb) n (GV nv X):=bW.fr hf2.wf hf3 hx2
 have hxc:=Vd nv X
 have hdc:=Vd nw U
 generalize GV nv X=x at *
 generalize GV nw U=d at *
 generalize aT n xb=xv at *
 generalize aT n yb=yv at *
 have yu:=hB.der hxc hdc
 have hbn:=vV n m cl al dl
 have hW3:=hf3.wf
 have hlx:=bW.len hx3
 have hxk:=bW.kn hx3
 have hyk:=bW.kn hd3
 simp (maxSteps:=9^9) (disch:=try exact jz) only [go_sem,z3,au q3,hek,hdk,hxk]
 refine (Yf (g:=iy n m cl al dl) hW3 (hg1.fr hF1.wf hF3) (by rw [hbn];exact hx3) (hB.mar hxc)).mono ?_
 rintro _ σ4 ⟨⟨mb,rs',hi,rfl,aqR,aiT,hMt⟩,hf4⟩
 rw [hbn] at hMt ⊢
 have uG:=hF3.trans hf4
 have q4:=hf4.get hW3 q3
 simp (maxSteps:=9^9) (disch:=try exact jz) only [go_sem,z3,au q4,hek,hdk,hxk]
 refine (agB hf4.wf (hg1.fr hF1.wf uG) (bW.fr hW3 hf4 hx3) (hB.map fun i _=>(hxc i).sm)).mono ?_
 rintro _ σ5 ⟨⟨av,rfl,ha5⟩,hf5⟩
 have jX:=uG.trans hf5
 have q5:=hf5.get hf4.wf q4
 have hM5:=hMt.fr hf5 aiT
 have hla:=bW.len ha5
 have hak:=bW.kn ha5
 generalize hMM:gM n (fC (iy n m cl al dl)) x=MM at *
 simp (maxSteps:=9^9) (disch:=try exact jz) only [go_sem,z3,hlx,hxk,hla,hak]
 refine (aoa hf5.wf).mono ?_
 rintro _ σ6 ⟨rfl,lT⟩
 have rX:=jX.trans lT
 have q6:=lT.get hf5.wf q5
 have asE:=Fr.refl lT.wf
 have hL3:LG (fun i=>jl (x i+uy*d i)) 3:=fun _=>rfl
 have zI:=(hf4.trans (hf5.trans lT)).le
 simp (maxSteps:=9^9) (disch:=try exact jz) only [go_sem,z3,hlx,hxk,hyk]
 refine bM.st (Fr σ6) (fr) fun Vq=>?_
 have atT:=(hf4.trans (hf5.trans lT)).trans Vq
 have aqN:=Vq.le
 refine bM.mono (Q:=fun e tm σ'=>e = .exit 0∧∃ zb,Tr.aj tm 15 = .c (.ptr σ1.ah 0)∧Tr.aj tm 16 = .c xv∧Tr.aj tm 17 = .c yv∧Tr.aj tm 18 = .c (.sl mb 0 n (.ex n))∧Tr.aj tm 20 = .c av∧Tr.aj tm 22 = .c (.ptr σ6.ah 0)∧Tr.aj tm 23 = .c (aT n zb)∧σ'.h σ6.ah=some ⟨[.bool (rn uy),.str (rs uy),.str (rd uy)],none⟩∧NF NoQ σ'.h zb n (fun i=>jl (x i+uy*d i)) 3 42 (σ6.ah+1) σ'.ah∧Fr σ6 σ'∧σ6.ah+1≤σ'.ah)
  (aN (fun q tm σ'=>∃ j zb,q=n - j∧j≤n∧Tr.aj tm 15 = .c (.ptr σ1.ah 0)∧Tr.aj tm 16 = .c xv∧Tr.aj tm 17 = .c yv∧Tr.aj tm 18 = .c (.sl mb 0 n (.ex n))∧Tr.aj tm 20 = .c av∧Tr.aj tm 22 = .c (.ptr σ6.ah 0)∧Tr.aj tm 23 = .c (aT j zb)∧Tr.aj tm 77 = .c (.int .i64 (.ofNat n))∧Tr.aj tm 78 = .c (.int .i64 (.ofNat j))∧σ'.h σ6.ah=some ⟨[.bool (rn uy),.str (rs uy),.str (rd uy)],none⟩∧NF NoQ σ'.h zb j (fun i=>jl (x i+uy*d i)) 3 42 (σ6.ah+1) σ'.ah∧Fr σ6 σ'∧σ6.ah+1≤σ'.ah) n ?_ ?_) ?_
 ·refine ⟨0,σ6.ah+1,jb,jb,?_⟩
  simp (maxSteps:=9^9) (disch:=try exact jz) only [go_sem,z3,true_and]
  and_intros <;> try (first|rfl|omega|exact NF.nil hL3|exact Vq|exact fr)
 ·rintro q tm σ' ⟨j,zb,rfl,hj,t15,t16,t17,oK,t20,t22,t23,t77,t78,qh,hN,hf,hnx⟩
  have hle:=hf.le
  have hg:=hN.g
  have hl1:=hN.l1
  have hl2:=hN.l2
  have ahw:=(hf4.trans (hf5.trans lT)).trans hf
  simp (maxSteps:=9^9) (disch:=try exact jz) only [go_sem,z3,t15,t16,t17,oK,t20,t22,t23,t77,t78,aP]
  refine aI (fun hlt=>?_) (fun hlt=>?_)
  ·obtain ⟨b5,o5,c5,e5,-,dh⟩:=bW.at3 hx3 hlt
   obtain ⟨b6,o6,c6,e6,-,gQ⟩:=bW.at3 hd3 hlt
   have dh:=ahw.ld hW3 dh
   have gQ:=ahw.ld hW3 gQ
   have zx:Sz (x j):=yu.zx j hlt
   have zd:Sz (d j):=yu.zd j hlt
   have zt:Sz uy:=yu.zt
   have zh:Sz (uy*d j):=yu.zh j hlt
   have qW:=Fr.refl hf.wf
   have a5:V.c (.sl b5 o5 n c5)=V.c xv:=by rw [e5]
   have a6:V.c (.sl b6 o6 n c6)=V.c yv:=by rw [e6]
   rw [e5] at t16
   rw [e6] at t17
   simp (maxSteps:=9^9) (disch:=try exact jz) only [go_sem,z3,t15,t16,t17,oK,t20,t22,t23,t77,t78,dh,gQ,hg,au qh]
   refine ⟨n - (j+1),jb,j+1,σ'.ah+1,rfl,jb,?_⟩
   and_intros <;> try (first|rfl|omega|exact a5|exact a6|exact qh|exact fr)
   refine hN.push (hi1:=σ'.ah) (h1:=σ'.h) (fun _ _=>UF _) (fun _ _ _ _ h=>h) trivial (fun _ _ _=>rfl) jp jb jb jb (aA _ _ _) rfl (fun c h1 h2 h3=>?_) (fun _ _=>rfl) hL3
   rw [ak _ _ _ _ jb,gJ _ _ _ _ jb];repeat rw [ak _ _ _ _ jb]
  ·have:j=n:=jb
   subst this
   simp (maxSteps:=9^9) (disch:=try exact jz) only [go_sem,z3,true_and]
   exact ⟨zb,t15,t16,t17,oK,t20,t22,t23,qh,hN,hf,hnx⟩
 ·rintro _ tm σ8 ⟨rfl,zb,t15,t16,t17,oK,t20,t22,t23,qh,hN,Gy,hn8⟩
  have hF8:=rX.trans Gy
  have q8:=Gy.get lT.wf q6
  have hz8:nD (Lt σ8.ah) σ8.h (aT n zb) n (fun i=>x i+uy*d i):=hN.hlp jj (fun _ _=>rfl) fun b _ h=>h
  have hzk:=bW.kn hz8
  generalize aT n zb=zv at *
  simp (maxSteps:=9^9) (disch:=try exact jz) only [go_sem,z3,t15,t16,t17,oK,t20,t22,t23,au q8,hek,hdk,hzk]
  refine (agB Gy.wf (hg1.fr hF1.wf hF8) hz8 (hB.as3 hxc hdc)).mono ?_
  rintro _ σ9 ⟨⟨bv,rfl,bD⟩,ZQ⟩
  have hlb:=bW.len bD
  have hbk:=bW.kn bD
  have ajM:=(lT.trans Gy).trans ZQ
  have aq5:=((hf4.trans hf5).trans ajM)
  have hM9:=hM5.fr ajM (by have:=hf5.le;omega)
  have ha9:=bW.fr hf5.wf ajM ha5
  have qh9:=ZQ.get Gy.wf qh
  have atl:=Gy.wf.lt qh
  have asI:=ZQ.le
  obtain ⟨qm,hR9,atU,hml⟩:=hM9
  unfold uH at qm
  have atV:hi≤σ9.ah:=by have:=hf5.le;have:=ajM.le;omega
  simp (maxSteps:=9^9) (disch:=try exact jz) only [go_sem,z3,t15,t16,t17,oK,t20,t22,t23,hlx,hxk,hlb,hbk]
  refine aN (fun q tm σ'=>∃ j,q=n - j∧j≤n∧Tr.aj tm 16 = .c xv∧Tr.aj tm 17 = .c yv∧Tr.aj tm 18 = .c (.sl mb 0 n (.ex n))∧Tr.aj tm 20 = .c av∧Tr.aj tm 22 = .c (.ptr σ6.ah 0)∧Tr.aj tm 25 = .c bv∧Tr.aj tm 112 = .c (.int .i64 (.ofNat n))∧Tr.aj tm 113 = .c (.int .i64 (.ofNat j))∧Fr σ9 σ') n ?_ ?_
  ·refine ⟨0,jb,jb,?_⟩
   simp (maxSteps:=9^9) (disch:=try exact jz) only [go_sem,z3,t16,t17,oK,t20,t22,true_and]
   and_intros <;> try (first|rfl|omega|exact Fr.refl ZQ.wf)
  ·rintro q tm σ' ⟨j,rfl,hj,t16,t17,oK,t20,t22,t25,Rj,Rk,hf⟩
   have hle:=hf.le
   simp (maxSteps:=9^9) (disch:=try exact jz) only [go_sem,z3,t16,t17,oK,t20,t22,t25,Rj,Rk,aP]
   refine aI (fun hlt=>?_) (fun hlt=>?_)
   ·have qW:=Fr.refl hf.wf
    simp (maxSteps:=9^9) (disch:=try exact jz) only [go_sem,z3,t16,t17,oK,t20,t22,t25,Rj,Rk,hlx]
    refine bM.st (Fr σ9) (fr) fun hFa=>?_
    have qj:=(hR9.r j hlt).1
    have qj:σ9.h (rs' j)=some ⟨dO n (MM j),none⟩:=qj
    have hbj:=(hR9.r j hlt).2
    refine bM.mono (Q:=fun e tm σ4=>e = .exit 4∧Tr.aj tm 16 = .c xv∧Tr.aj tm 17 = .c yv∧Tr.aj tm 18 = .c (.sl mb 0 n (.ex n))∧Tr.aj tm 20 = .c av∧Tr.aj tm 22 = .c (.ptr σ6.ah 0)∧Tr.aj tm 25 = .c bv∧Tr.aj tm 27 = .c (.int .i64 (.ofNat j))∧Tr.aj tm 28 = .c (.ptr σ'.ah 0)∧Tr.aj tm 29 = .c (.ptr (σ'.ah+1) 0)∧Tr.aj tm 112 = .c (.int .i64 (.ofNat n))∧Tr.aj tm 113 = .c (.int .i64 (.ofNat j))
      ∧ σ4.h σ'.ah=some ⟨[.bool (rn (aB n fun i=>MM j i*d i)),.str (rs (aB n fun i=>MM j i*d i)),.str (rd (aB n fun i=>MM j i*d i))],none⟩∧σ4.h (σ'.ah+1)=some ⟨[.bool (rn (aB n fun i=>MM i j)),.str (rs (aB n fun i=>MM i j)),.str (rd (aB n fun i=>MM i j))],none⟩∧Fr σ9 σ4∧σ'.ah+1+1≤σ4.ah)
     (aN (fun q tm σ4=>∃ i,q=n - i∧i≤n∧Tr.aj tm 16 = .c xv∧Tr.aj tm 17 = .c yv∧Tr.aj tm 18 = .c (.sl mb 0 n (.ex n))∧Tr.aj tm 20 = .c av∧Tr.aj tm 22 = .c (.ptr σ6.ah 0)∧Tr.aj tm 25 = .c bv∧Tr.aj tm 27 = .c (.int .i64 (.ofNat j))∧Tr.aj tm 28 = .c (.ptr σ'.ah 0)∧Tr.aj tm 29 = .c (.ptr (σ'.ah+1) 0)∧Tr.aj tm 112 = .c (.int .i64 (.ofNat n))∧Tr.aj tm 113 = .c (.int .i64 (.ofNat j))∧Tr.aj tm 119 = .c (.int .i64 (.ofNat n))∧Tr.aj tm 120 = .c (.int .i64 (.ofNat i))
      ∧ σ4.h σ'.ah=some ⟨[.bool (rn (aB i fun i=>MM j i*d i)),.str (rs (aB i fun i=>MM j i*d i)),.str (rd (aB i fun i=>MM j i*d i))],none⟩∧σ4.h (σ'.ah+1)=some ⟨[.bool (rn (aB i fun i=>MM i j)),.str (rs (aB i fun i=>MM i j)),.str (rd (aB i fun i=>MM i j))],none⟩∧Fr σ9 σ4∧σ'.ah+1+1≤σ4.ah) n ?_ ?_) ?_
    ·refine ⟨0,jb,jb,?_⟩
     simp (maxSteps:=9^9) (disch:=try exact jz) only [go_sem,z3,t16,t17,oK,t20,t22,t25,Rj,Rk,true_and]
     and_intros <;> try (first|rfl|omega|exact hFa|exact fr)
    ·rintro q tm σ4 ⟨i,rfl,hi',t16,t17,oK,t20,t22,t25,t27,t28,t29,Rj,Rk,t119,aq6,qs,qc,D9,hn4⟩
     have Aw:=D9.le
     simp (maxSteps:=9^9) (disch:=try exact jz) only [go_sem,z3,t16,t17,oK,t20,t22,t25,t27,t28,t29,Rj,Rk,t119,aq6,aP]
     refine aI (fun BJ=>?_) (fun BJ=>?_)
     ·have qi:σ9.h (rs' i)=some ⟨dO n (MM i),none⟩:=(hR9.r i BJ).1
      have hbi:=(hR9.r i BJ).2
      have qm4:=D9.get ZQ.wf qm
      have qj4:=D9.get ZQ.wf qj
      have qi4:=D9.get ZQ.wf qi
      obtain ⟨b6,o6,c6,e6,-,gQ⟩:=bW.at3 hd3 BJ
      have aq7:=(aq5.trans D9).ld hW3 gQ
      have a6:V.c (.sl b6 o6 n c6)=V.c yv:=by rw [e6]
      rw [e6] at t17
      have m6:=hW3.eU gQ
      have m39:=aq5.le
      have z1:Sz (MM j i):=yu.zM j i hlt BJ
      have z2:Sz (d i):=yu.zd i BJ
      have z3' : Sz (MM j i*d i):=yu.zp j i hlt BJ
      have z4:Sz (aB i fun i=>MM j i*d i):=yu.zs j i hlt hi'
      have z5:Sz (aB i fun i=>MM i j):=yu.zc j i hlt hi'
      have z6:Sz (MM i j):=yu.zM i j BJ hlt
      have hsg:=ZO (yu.nn j i hlt BJ)
      have QL:=Fr.refl D9.wf
      simp (maxSteps:=9^9) (disch:=try exact jz) only [go_sem,z3,t16,t17,oK,t20,t22,t25,t27,t28,t29,Rj,Rk,t119,aq6,au qm4,qm4,au qj4,qj4,au qi4,qi4,aq7,hlx,hsg,au qs,qs,aX qs,au qc,qc,aX qc]
      refine ⟨n - (i+1),jb,i+1,rfl,jb,?_⟩
      and_intros <;> try (first|rfl|omega|exact a6|exact fr)
     ·have:i=n:=jb
      subst this
      simp (maxSteps:=9^9) (disch:=try exact jz) only [go_sem,z3,true_and]
      exact ⟨t16,t17,oK,t20,t22,t25,t27,t28,t29,Rj,Rk,qs,qc,D9,hn4⟩
    ·rintro _ tm σ4 ⟨rfl,t16,t17,oK,t20,t22,t25,t27,t28,t29,Rj,Rk,qs,qc,D9,hn4⟩
     have Aw:=D9.le
     obtain ⟨b5,o5,c5,e5,-,dh⟩:=bW.at3 ha9 hlt
     obtain ⟨b6,o6,c6,e6,-,gQ⟩:=bW.at3 bD hlt
     have dh:=D9.ld ZQ.wf dh
     have gQ:=D9.ld ZQ.wf gQ
     have a5:V.c (.sl b5 o5 n c5)=V.c av:=by rw [e5]
     have a6:V.c (.sl b6 o6 n c6)=V.c bv:=by rw [e6]
     rw [e5] at t20
     rw [e6] at t25
     have qh4:=D9.get ZQ.wf qh9
     have z1:Sz uy:=yu.zt
     have z2:Sz (aB n fun i=>MM j i*d i):=yu.zs j n hlt jp
     have z3' : Sz (uy*aB n fun i=>MM j i*d i):=yu.zg j hlt
     have z4:Sz (Nc (iy n m cl al dl) x j):=yu.za j hlt
     have z5:Sz (aB n fun i=>MM i j):=yu.zc j n hlt jp
     have heq:=yu.eq j hlt
     have hcm:(Int.ofNat 0<lY (aB n fun i=>MM i j) 1)=False:=by
      refine propext ⟨fun h=>?_,False.elim⟩
      exact absurd (xg.mpr (yu.col j hlt)) (Int.not_le.mpr h)
     have zi:Sz (1:Rat):=by rw [Ri];exact agD jj
     have QL:=Fr.refl D9.wf
     simp (maxSteps:=9^9) (disch:=try exact jz) only [go_sem,z3,t16,t17,oK,t20,t22,t25,t27,t28,t29,Rj,Rk,dh,gQ,au qh4,au qs,qs,au qc,qc,heq,hcm,show (false == true)=false from rfl]
     refine ⟨n - (j+1),jb,j+1,rfl,jb,?_⟩
     and_intros <;> try (first|rfl|omega|exact a5|exact a6|exact D9|exact fr)
   ·have:j=n:=jb
    subst this
    simp (maxSteps:=9^9) (disch:=try exact jz) only [go_sem,z3,hAw]
end Go.Proofs.Xe
