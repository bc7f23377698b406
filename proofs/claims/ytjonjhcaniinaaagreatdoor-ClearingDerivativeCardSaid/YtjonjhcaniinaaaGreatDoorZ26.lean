/- fH: results. -/
import Derived.Test.YtjonjhcaniinaaaGreatDoorZ25
set_option linter.all false
set_option maxRecDepth 100000
namespace Go.Proofs.Ins
/-! ### Qj: ap6 that are paid one after the other -/
abbrev dJ:=List (Int×Rat)
def aU:dJ→Rat
 | []=>0
 | p::t=>p.2+aU t
def jU:dJ→Int→Rat
 | [],_=>0
 | p::t,c=>(if p.1=c then p.2 else 0)+jU t c
def NnT (t:dJ):Prop:=∀ p∈t,0≤p.2
theorem Ah {t:dJ} (h:NnT t) (c:Int):0≤jU t c:=by
 induction t with
 | nil=>exact Rat.le_refl
 | cons p t ih =>
  have h1:=ih fun q hq=>h q (by simp [hq])
  have h2:=h p kc
  unfold jU
  split <;> grind
theorem H8 {t:dJ} (h:NnT t) (c:Int):jU t c≤aU t:=by
 induction t with
 | nil=>exact Rat.le_refl
 | cons p t ih =>
  have h1:=ih fun q hq=>h q (by simp [hq])
  have h2:=h p kc
  unfold jU aU
  split <;> grind
theorem vg {t:dJ} (h:NnT t):0≤aU t:=Rat.le_trans (Ah h 0) (H8 h 0)
abbrev gZ:=List dJ
def Rw (l:gZ):Prop:=∀ t∈l,NnT t
def gy:gZ→Rat→Int→Rat
 | [],_,_=>0
 | t::l,m,c=>if m<aU t then jU t c*(m/aU t) else jU t c+gy l (m - aU t) c
def jV:gZ→Rat→Rat→Int→Rat
 | [],_,_,_=>0
 | t::l,m,r,c=>if m<aU t then jU t c*(r/aU t) else jV l (m - aU t) r c
def wI:gZ→Rat→Option Rat
 | [],_=>none
 | t::l,m=>if m<aU t then some (aU t - m) else wI l (m - aU t)
def eP:gZ→Rat→Nat
 | [],_=>0
 | t::l,m=>if m<aU t then 0 else eP l (m - aU t)+1
def mG:gZ→Rat→Rat
 | [],_=>0
 | t::l,m=>if m<aU t then m else aU t+mG l (m - aU t)
def uF:gZ→Rat
 | []=>0
 | t::l=>aU t+uF l
theorem Rw.tl {t:dJ} {l:gZ} (h:Rw (t::l)):NnT t∧Rw l:=⟨h t kc,fun u hu=>h u (by simp [hu])⟩
theorem zl {a b:Rat} (ha:0≤a) (hb:0<b):0≤a/b:=by
 refine Rat.not_lt.mp fun hlt=>?_
 have h1:=Rat.mul_lt_mul_of_pos_right hlt hb
 rw [Rat.div_mul_cancel kf] at h1
 grind
theorem ng {a b:Rat} (hb:0<b) (h:a≤b):a/b≤1:=by
 refine Rat.not_lt.mp fun hlt=>?_
 have h1:=Rat.mul_lt_mul_of_pos_right hlt hb
 rw [Rat.div_mul_cancel kf] at h1
 grind
theorem afb {a b c:Rat} (hb:0<b) (h:a≤c):a/b≤c/b:=by
 refine Rat.not_lt.mp fun hlt=>?_
 have h1:=Rat.mul_lt_mul_of_pos_right hlt hb
 rw [Rat.div_mul_cancel kf,Rat.div_mul_cancel kf] at h1
 grind
theorem J7 {l:gZ} (h:Rw l) (c:Int):gy l 0 c=0:=by
 induction l with
 | nil=>rfl
 | cons t l ih =>
  obtain ⟨h1,h2⟩:=h.tl
  unfold gy
  split
  ·rw [Rat.div_def,Rat.zero_mul,Rat.mul_zero]
  ·have:=vg h1
   have h3:aU t=0:=by grind
   have:=Ah h1 c
   have:=H8 h1 c
   rw [h3,show (0:Rat) - 0=0 by grind,ih h2];grind
theorem Xw {l:gZ} (h:Rw l) (c:Int) : ∀ {m:Rat},0≤m→0≤gy l m c:=by
 induction l with
 | nil=>intro m _;exact Rat.le_refl
 | cons t l ih =>
  intro m hm
  obtain ⟨h1,h2⟩:=h.tl
  unfold gy
  have:=Ah h1 c
  split
  ·have:=Rat.mul_nonneg this (zl hm (b:=aU t) kf);grind
  ·have:=ih h2 (m:=m - aU t) kf;grind
theorem afc {l:gZ} (h:Rw l) (c:Int) {r:Rat} (hr:0≤r) : ∀ {m:Rat},0≤m→0≤jV l m r c:=by
 induction l with
 | nil=>intro m _;exact Rat.le_refl
 | cons t l ih =>
  intro m hm
  obtain ⟨h1,h2⟩:=h.tl
  unfold jV
  split
  ·exact Rat.mul_nonneg (Ah h1 c) (zl hr kf)
  ·exact ih h2 (m:=m - aU t) kf
theorem Qk (l:gZ) (c:Int) (s r:Rat) : ∀ m,jV l m (s*r) c=s*jV l m r c:=by
 induction l with
 | nil=>intro m;unfold jV;grind
 | cons t l ih =>
  intro m
  unfold jV
  split
  ·rw [Rat.div_def,Rat.div_def];grind
  ·exact ih _
theorem Ur (l:gZ) (c:Int) (m:Rat):jV l m 0 c=0:=by
 have:=Qk l c 0 0 m
 grind
theorem DF {l:gZ} (h:Rw l) (c:Int) : ∀ {m m' : Rat},0≤m→m≤m'→gy l m c≤gy l m' c:=by
 induction l with
 | nil=>intro m m' _ _;exact Rat.le_refl
 | cons t l ih =>
  intro m m' hm hle
  obtain ⟨h1,h2⟩:=h.tl
  have hc:=Ah h1 c
  unfold gy
  by_cases e:m<aU t
  ·rw [if_pos e]
   by_cases e2:m' < aU t
   ·rw [if_pos e2]
    exact Rat.mul_le_mul_of_nonneg_left (afb kf hle) hc
   ·rw [if_neg e2]
    have a:=Rat.mul_le_mul_of_nonneg_left (ng (a:=m) (b:=aU t) kf kf) hc
    have b:=Xw h2 c (m:=m' - aU t) kf
    grind
  ·rw [if_neg e,if_neg kf]
   have:=ih h2 (m:=m - aU t) (m':=m' - aU t) kf kf
   grind
theorem Ql {l:gZ} : ∀ {m g:Rat},wI l m=some g→0<g:=by
 induction l with
 | nil=>intro m g h;cases h
 | cons t l ih =>
  intro m g h
  unfold wI at h
  split at h
  ·cases h;grind
  ·exact ih h
theorem Zb {l:gZ} (h:Rw l) (c:Int) : ∀ {m g s:Rat},0≤m→wI l m=some g→0≤s→s≤g→gy l (m+s) c=gy l m c+jV l m s c:=by
 induction l with
 | nil=>intro m g s _ hg;cases hg
 | cons t l ih =>
  intro m g s hm hg hs hle
  obtain ⟨h1,h2⟩:=h.tl
  unfold wI at hg
  unfold gy jV
  by_cases e:m<aU t
  ·rw [if_pos e] at hg
   cases hg
   rw [if_pos e,if_pos e]
   have hne:aU t≠0:=by grind
   by_cases e2:m+s<aU t
   ·rw [if_pos e2,Rat.div_def,Rat.div_def,Rat.div_def];grind
   ·rw [if_neg e2,show m+s - aU t=0 by grind,J7 h2]
    have:m/aU t+s/aU t=1:=by
     rw [Rat.div_def,Rat.div_def,← Rat.add_mul,show m+s=aU t by grind]
     exact Rat.mul_inv_cancel _ hne
    grind
  ·rw [if_neg e] at hg
   rw [if_neg e,if_neg e,if_neg kf,show m+s - aU t=m - aU t+s by grind,ih h2 kf hg hs hle]
   grind
theorem zn {l:gZ} (c:Int) (r:Rat) : ∀ {m s:Rat},wI l m=none→0≤s→gy l (m+s) c=gy l m c∧jV l (m+s) r c=0∧wI l (m+s)=none:=by
 induction l with
 | nil=>intro m s _ _;exact ⟨rfl,rfl,rfl⟩
 | cons t l ih =>
  intro m s hg hs
  unfold wI at hg ⊢
  unfold jV gy
  by_cases e:m<aU t
  ·rw [if_pos e] at hg;cases hg
  ·rw [if_neg e] at hg
   obtain ⟨a,b,d⟩:=ih hg hs
   rw [if_neg e,if_neg kf,if_neg kf,if_neg kf,show m+s - aU t=m - aU t+s by grind]
   exact ⟨by rw [a],b,d⟩
theorem afd (l:gZ) : ∀ m,eP l m≤l.length:=by
 induction l with
 | nil=>intro m;exact jp
 | cons t l ih =>
  intro m
  unfold eP
  have:=ih (m - aU t)
  split <;> simp <;> omega
theorem N9 {l:gZ} (h:Rw l) : ∀ {m m' : Rat},0≤m→m≤m'→m - mG l m≤m' - mG l m':=by
 induction l with
 | nil=>intro m m' _ h;unfold mG;grind
 | cons t l ih =>
  intro m m' hm hle
  obtain ⟨h1,h2⟩:=h.tl
  unfold mG
  by_cases e:m<aU t
  ·rw [if_pos e]
   by_cases e2:m' < aU t
   ·rw [if_pos e2];grind
   ·rw [if_neg e2]
    have a:=ih h2 (m:=0) (m':=m' - aU t) Rat.le_refl kf
    have b:mG l 0=0:=by
     clear ih a
     induction l with
     | nil=>rfl
     | cons u l ih2 =>
      obtain ⟨h3,h4⟩:=h2.tl
      unfold mG
      split
      ·rfl
      ·have:=vg h3
       have h5:aU u=0:=by grind
       rw [h5,show (0:Rat) - 0=0 by grind,ih2 (fun x hx=>by
        rcases List.mem_cons.mp hx with rfl|hx
        ·exact h1
        ·exact h4 x hx) h4];grind
    grind
  ·rw [if_neg e,if_neg kf]
   have:=ih h2 (m:=m - aU t) (m':=m' - aU t) kf kf
   grind
/-! ### An Xx: a asg of ranks, and aku -/
def aF {α:Type} : List α→(α→Rat)→Rat
 | [],_=>0
 | a::l,f=>f a+aF l f
section
variable {α:Type}
theorem dQ {l:List α} {f g:α→Rat} (h : ∀ a∈l,f a=g a):aF l f=aF l g:=by
 induction l with
 | nil=>rfl
 | cons a l ih=>unfold aF;rw [h a kc,ih fun b hb=>h b (by simp [hb])]
theorem zo (l:List α) (f g:α→Rat):aF l (fun a=>f a+g a)=aF l f+aF l g:=by
 induction l with
 | nil=>unfold aF;grind
 | cons a l ih=>unfold aF;rw [ih];grind
theorem DI (l:List α) (f g:α→Rat):aF l (fun a=>f a - g a)=aF l f - aF l g:=by
 induction l with
 | nil=>unfold aF;grind
 | cons a l ih=>unfold aF;rw [ih];grind
theorem wJ (l:List α) (s:Rat) (f:α→Rat):aF l (fun a=>s*f a)=s*aF l f:=by
 induction l with
 | nil=>unfold aF;grind
 | cons a l ih=>unfold aF;rw [ih];grind
theorem rU {l:List α} {f g:α→Rat} (h : ∀ a∈l,f a≤g a):aF l f≤aF l g:=by
 induction l with
 | nil=>exact Rat.le_refl
 | cons a l ih =>
  unfold aF
  have:=h a kc
  have:=ih fun b hb=>h b (by simp [hb])
  grind
theorem kM {l:List α} {f:α→Rat} (h : ∀ a∈l,f a=0):aF l f=0:=by
 rw [dQ (g:=fun _=>0) h]
 clear h
 induction l with
 | nil=>rfl
 | cons a l ih=>unfold aF;rw [ih];grind
theorem xJ {l:List α} {f:α→Rat} (h : ∀ a∈l,0≤f a):0≤aF l f:=by
 have:=rU (f:=fun _=>(0:Rat)) h
 rwa [kM fun _ _=>rfl] at this
theorem nJ {n:Nat} (l:List α) (f:α→Nat→Rat):aB n (fun i=>aF l fun a=>f a i)=aF l fun a=>aB n (f a):=by
 induction l with
 | nil=>exact dw fun _ _=>rfl
 | cons a l ih=>unfold aF;rw [dH,ih]
end
structure iq where
 rk:gZ
 ps:List (List Nat×gZ)
def Aq (e:iq) (x:Rat) (c:Nat):Rat:=gy e.rk x c
def rts (e:iq) (x:Rat) (c:Nat):Rat:=jV e.rk x 1 c
def pooled (e:iq) (c:Nat):Bool:=e.ps.any fun p=>p.1.contains c
def lJ (e:iq) (x:Rat) (p:List Nat×gZ):Rat:=aF p.1 (Aq e x)
def wU (e:iq) (x:Rat) (p:List Nat×gZ):Rat:=aF p.1 (rts e x)
def sK (e:iq) (x:Rat) (c:Nat):Rat:=(if pooled e c then 0 else Aq e x c)+aF e.ps fun p=>gy p.2 (lJ e x p) c
def Zc (e:iq) (x:Rat):Rat:=aF e.ps fun p=>gy p.2 (lJ e x p) (-1)
def yx (e:iq) (x:Rat) (c:Nat):Rat:=(if pooled e c then 0 else rts e x c)+aF e.ps fun p=>jV p.2 (lJ e x p) (wU e x p) c
def Qm (e:iq) (x:Rat):Rat:=aF e.ps fun p=>jV p.2 (lJ e x p) (wU e x p) (-1)
def jW (a b:Rat):Rat:=if a≤b then a else b
theorem ai3 (a b:Rat):jW a b≤a∧jW a b≤b:=by unfold jW;split <;> grind
def J8 (e:iq) (x:Rat):List (List Nat×gZ)→Rat→Rat
 | [],g=>g
 | p::l,g=>match wI p.2 (lJ e x p) with
  | some d=>if 0<wU e x p then J8 e x l (jW g (d/wU e x p)) else J8 e x l g
  | none=>J8 e x l g
def stp (e:iq) (x:Rat):Option Rat:=match wI e.rk x with
 | some g=>some (J8 e x e.ps g)
 | none=>none
def aql (e:iq) (x:Rat):List (List Nat×gZ)→Nat
 | []=>0
 | p::l=>(p.2.length - eP p.2 (lJ e x p))+aql e x l
def opn (e:iq) (x:Rat):Nat:=(e.rk.length - eP e.rk x)+aql e x e.ps
structure J9 (e:iq):Prop where
 rk:Rw e.rk
 ps : ∀ p∈e.ps,Rw p.2
section
variable {e:iq}
theorem afe (h:J9 e) {x:Rat} (hx:0≤x) (c:Nat):0≤Aq e x c:=Xw h.rk _ hx
theorem aff (h:J9 e) {x:Rat} (hx:0≤x) (c:Nat):0≤rts e x c:=afc h.rk _ jj hx
theorem ou (h:J9 e) {x:Rat} (hx:0≤x) (p:List Nat×gZ):0≤lJ e x p:=xJ fun _ _=>afe h hx _
theorem Qn (h:J9 e) {x:Rat} (hx:0≤x) (p:List Nat×gZ):0≤wU e x p:=xJ fun _ _=>aff h hx _
theorem Ko (h:J9 e) {x y:Rat} (hx:0≤x) (hy:x≤y) (p:List Nat×gZ):lJ e x p≤lJ e y p:=rU fun _ _=>DF h.rk _ hx hy
theorem Us (h:J9 e) {x y:Rat} (hx:0≤x) (hy:x≤y) (c:Nat):sK e x c≤sK e y c:=by
 unfold sK
 have h1:aF e.ps (fun p=>gy p.2 (lJ e x p) c)≤aF e.ps (fun p=>gy p.2 (lJ e y p) c):=rU fun p hp=>DF (h.ps p hp) _ (ou h hx p) (Ko h hx hy p)
 have h2:Aq e x c≤Aq e y c:=DF h.rk _ hx hy
 split <;> grind
theorem afg (h:J9 e) {x y:Rat} (hx:0≤x) (hy:x≤y):Zc e x≤Zc e y :=
 rU fun p hp=>DF (h.ps p hp) _ (ou h hx p) (Ko h hx hy p)
theorem Xy (h:J9 e) {x:Rat} (hx:0≤x) (c:Nat):0≤sK e x c:=by
 unfold sK
 have h1:0≤aF e.ps (fun p=>gy p.2 (lJ e x p) c):=xJ fun p hp=>Xw (h.ps p hp) _ (ou h hx p)
 have:=afe h hx c
 split <;> grind
theorem H9 (h:J9 e) {x:Rat} (hx:0≤x) (c:Nat):0≤yx e x c:=by
 unfold yx
 have h1:0≤aF e.ps (fun p=>jV p.2 (lJ e x p) (wU e x p) c):=xJ fun p hp=>afc (h.ps p hp) _ (Qn h hx p) (ou h hx p)
 have:=aff h hx c
 split <;> grind
theorem DJ (e:iq) (x:Rat) : ∀ (l:List (List Nat×gZ)) (g:Rat),J8 e x l g≤g∧∀ p∈l,∀ d,wI p.2 (lJ e x p)=some d→0<wU e x p→J8 e x l g≤d/wU e x p
 | [],g=>⟨Rat.le_refl,fun p hp=>by cases hp⟩
 | p::l,g=>by
  unfold J8
  cases hg:wI p.2 (lJ e x p) with
  | none =>
   obtain ⟨h1,h2⟩:=DJ e x l g
   refine ⟨h1,fun q hq d hd hr=>?_⟩
   rcases List.mem_cons.mp hq with rfl|hq
   ·rw [hg] at hd;cases hd
   ·exact h2 q hq d hd hr
  | some d0 =>
   dsimp only
   by_cases hr0:0<wU e x p
   ·rw [if_pos hr0]
    obtain ⟨h1,h2⟩:=DJ e x l (jW g (d0/wU e x p))
    obtain ⟨h3,h4⟩:=ai3 g (d0/wU e x p)
    refine ⟨Rat.le_trans h1 h3,fun q hq d hd hr=>?_⟩
    rcases List.mem_cons.mp hq with rfl|hq
    ·rw [hg] at hd;cases hd;exact Rat.le_trans h1 h4
    ·exact h2 q hq d hd hr
   ·rw [if_neg hr0]
    obtain ⟨h1,h2⟩:=DJ e x l g
    refine ⟨h1,fun q hq d hd hr=>?_⟩
    rcases List.mem_cons.mp hq with rfl|hq
    ·exact absurd hr hr0
    ·exact h2 q hq d hd hr
theorem Ia (e:iq) (x:Rat) : ∀ (l:List (List Nat×gZ)) (g:Rat),J8 e x l g=g∨∃ p∈l,∃ d,wI p.2 (lJ e x p)=some d∧0<wU e x p∧J8 e x l g=d/wU e x p
 | [],g=>.inl rfl
 | p::l,g=>by
  unfold J8
  cases hg:wI p.2 (lJ e x p) with
  | none =>
   rcases Ia e x l g with h|⟨q,hq,d,h1,h2,h3⟩
   ·exact .inl h
   ·exact .inr ⟨q,by simp [hq],d,h1,h2,h3⟩
  | some d0 =>
   dsimp only
   by_cases hr0:0<wU e x p
   ·rw [if_pos hr0]
    rcases Ia e x l (jW g (d0/wU e x p)) with h|⟨q,hq,d,h1,h2,h3⟩
    ·by_cases hm:g≤d0/wU e x p
     ·exact .inl (by rw [h];unfold jW;rw [if_pos hm])
     ·exact .inr ⟨p,by simp,d0,hg,hr0,by rw [h];unfold jW;rw [if_neg hm]⟩
    ·exact .inr ⟨q,by simp [hq],d,h1,h2,h3⟩
   ·rw [if_neg hr0]
    rcases Ia e x l g with h|⟨q,hq,d,h1,h2,h3⟩
    ·exact .inl h
    ·exact .inr ⟨q,by simp [hq],d,h1,h2,h3⟩
theorem div_pos {a b:Rat} (ha:0<a) (hb:0<b):0<a/b:=by
 refine Rat.not_le.mp fun hle=>?_
 have h1:=Rat.mul_le_mul_of_nonneg_right hle (Rat.le_of_lt hb)
 rw [Rat.div_mul_cancel kf] at h1
 grind
theorem Zd (h:J9 e) {x g s:Rat} (hx:0≤x) (hg:wI e.rk x=some g) (h0:0≤s) (hs:s≤g) (c:Nat):Aq e (x+s) c=Aq e x c+s*rts e x c:=by
 unfold Aq rts
 rw [Zb h.rk _ hx hg h0 hs]
 have:=Qk e.rk c s 1 x
 rw [← this,Rat.mul_one]
theorem ai4 (h:J9 e) {x g s:Rat} (hx:0≤x) (hg:wI e.rk x=some g) (h0:0≤s) (hs:s≤g) (p:List Nat×gZ):lJ e (x+s) p=lJ e x p+s*wU e x p:=by
 unfold lJ wU
 rw [← wJ,← zo]
 exact dQ fun c _=>Zd h hx hg h0 hs c
theorem vP {a b s:Rat} (hb:0<b) (h:s≤a/b):s*b≤a:=by
 have h1:=Rat.mul_le_mul_of_nonneg_right h (Rat.le_of_lt hb)
 rwa [Rat.div_mul_cancel kf] at h1
theorem afh (h:J9 e) {x g s:Rat} (hx:0≤x) (hg:wI e.rk x=some g) (h0:0≤s) (hs:s≤J8 e x e.ps g) {p:List Nat×gZ} (hp:p∈e.ps) (c:Int) :
  gy p.2 (lJ e (x+s) p) c=gy p.2 (lJ e x p) c+s*jV p.2 (lJ e x p) (wU e x p) c:=by
 obtain ⟨h1,h2⟩:=DJ e x e.ps g
 rw [ai4 h hx hg h0 (Rat.le_trans hs h1),← Qk]
 have hr:=Qn h hx p
 have hsr:=Rat.mul_nonneg h0 hr
 cases hd:wI p.2 (lJ e x p) with
 | none =>
  obtain ⟨a,-,-⟩:=zn (l:=p.2) c 0 hd hsr
  obtain ⟨-,b,-⟩:=zn (l:=p.2) c (s*wU e x p) hd (s:=0) Rat.le_refl
  rw [Rat.add_zero] at b
  rw [a,b];grind
 | some d =>
  refine Zb (h.ps p hp) c (ou h hx p) hd hsr ?_
  by_cases hr0:0<wU e x p
  ·exact vP hr0 (Rat.le_trans hs (h2 p hp d hd hr0))
  ·have:wU e x p=0:=by grind
   rw [this];have:=Ql hd;grind
theorem ai5 (h:J9 e) {x g s:Rat} (hx:0≤x) (hg:stp e x=some g) (h0:0≤s) (hs:s≤g) (c:Nat):sK e (x+s) c=sK e x c+s*yx e x c:=by
 unfold stp at hg
 split at hg
 ·next g0 hg0 =>
  cases hg
  unfold sK yx
  rw [dQ (fun p hp=>afh h hx hg0 h0 hs hp c),zo,wJ,Zd h hx hg0 h0 (Rat.le_trans hs (DJ e x e.ps g0).1)]
  split <;> grind
 ·cases hg
theorem Ut (h:J9 e) {x s:Rat} (hg:stp e x=none) (h0:0≤s):(∀ c,sK e (x+s) c=sK e x c∧yx e (x+s) c=0)∧Zc e (x+s)=Zc e x∧Qm e (x+s)=0∧stp e (x+s)=none:=by
 unfold stp at hg
 split at hg
 ·cases hg
 ·next hn =>
  have h1 : ∀ c,Aq e (x+s) c=Aq e x c:=fun c=>(zn (l:=e.rk) c 1 hn h0).1
  have h2 : ∀ c,rts e (x+s) c=0:=fun c=>(zn (l:=e.rk) c 1 hn h0).2.1
  have h3 : ∀ p,lJ e (x+s) p=lJ e x p:=fun p=>dQ fun c _=>h1 c
  have h4 : ∀ p,wU e (x+s) p=0:=fun p=>kM fun c _=>h2 c
  refine ⟨fun c=>⟨?_,?_⟩,?_,?_,?_⟩
  ·unfold sK
   rw [h1,dQ (g:=fun p=>gy p.2 (lJ e x p) c) fun p _=>by rw [h3]]
  ·unfold yx
   rw [h2,kM fun p _=>by rw [h4,Ur]]
   split <;> grind
  ·unfold Zc
   exact dQ fun p _=>by rw [h3]
  ·unfold Qm
   exact kM fun p _=>by rw [h4,Ur]
  ·unfold stp
   rw [(zn (l:=e.rk) 0 1 hn h0).2.2]
end
/-! ### What an Xx pays Uu in all -/
theorem Oa {n:Nat} (g:Nat→Rat) : ∀ l:List Nat,l.Nodup→(∀ i∈l,i<n)→aB n (fun i=>if i∈l then g i else 0)=aF l g
 | [],_,_=>dw fun i _=>by simp
 | x::t,hn,hl=>by
  rw [List.nodup_cons] at hn
  have e:aB n (fun i=>if i∈x::t then g i else 0)=aB n fun i=>(if i=x then g x else 0)+if i∈t then g i else 0:=aS fun i _=>by
   by_cases h:i=x
   ·subst h;rw [if_pos kc,if_pos rfl,if_neg hn.1];grind
   ·rw [if_neg h]
    by_cases h2:i∈t
    ·rw [if_pos (by simp [h2]),if_pos h2];grind
    ·rw [if_neg (by simp [h,h2]),if_neg h2];grind
  have hd:aB n (fun i=>if i=x then g x else 0)=g x:=by
   rw [jI (hl x kc) fun i _ hne=>if_neg hne,if_pos rfl]
  rw [e,dH,hd,Oa g t hn.2 fun i hi=>hl i (by simp [hi])]
  rfl
def InT (n:Nat) (t:dJ):Prop:=∀ p∈t,p.1 = -1∨0≤p.1∧p.1<n
def InL (n:Nat) (l:gZ):Prop:=∀ t∈l,InT n t
theorem ai8 {n:Nat} {t:dJ} (h:InT n t):aB n (fun c=>jU t c)+jU t (-1)=aU t:=by
 induction t with
 | nil =>
  have:aB n (fun c:Nat=>jU [] c)=0:=dw fun _ _=>rfl
  rw [this];unfold jU aU;grind
 | cons p t ih =>
  have h1:=ih fun q hq=>h q (by simp [hq])
  have h2:=h p kc
  have e:aB n (fun c=>jU (p::t) c)=aB n (fun c=>if p.1=c then p.2 else 0)+aB n fun c=>jU t c:=by rw [← dH];exact aS fun c _=>rfl
  have e2:jU (p::t) (-1)=(if p.1 = -1 then p.2 else 0)+jU t (-1):=rfl
  have e3:aU (p::t)=p.2+aU t:=rfl
  rw [e,e2,e3]
  rcases h2 with h2|⟨h2,h3⟩
  ·rw [if_pos h2,dw fun c _=>by rw [if_neg jb]];grind
  ·rw [if_neg jb]
   have e4:aB n (fun c:Nat=>if p.1=c then p.2 else 0)=p.2:=by
    rw [jI (k:=p.1.toNat) jb fun i _ hne=>if_neg jb,if_pos jb]
   rw [e4];grind
theorem Ze {n:Nat} {l:gZ} (h:InL n l) : ∀ {m:Rat},0≤m→aB n (fun c=>gy l m c)+gy l m (-1)=mG l m:=by
 induction l with
 | nil =>
  intro m _
  have:aB n (fun c:Nat=>gy [] m c)=0:=dw fun _ _=>rfl
  rw [this];unfold gy mG;grind
 | cons t l ih =>
  intro m hm
  have h1:=ai8 (h t kc)
  have h2:InL n l:=fun u hu=>h u (by simp [hu])
  by_cases e:m<aU t
  ·have e1:aB n (fun c=>gy (t::l) m c)=aB n fun c=>jU t c*(m/aU t):=aS fun c _=>by unfold gy;rw [if_pos e]
   rw [e1,N7]
   unfold gy mG
   rw [if_pos e,if_pos e,← Rat.add_mul,h1,Rat.mul_comm,Rat.div_mul_cancel kf]
  ·have e1:aB n (fun c=>gy (t::l) m c)=aB n (fun c=>jU t c)+aB n fun c=>gy l (m - aU t) c:=by
    rw [← dH];exact aS fun c _=>by rw [gy,if_neg e]
   rw [e1]
   have:=ih h2 (m:=m - aU t) kf
   have e2:gy (t::l) m (-1)=jU t (-1)+gy l (m - aU t) (-1):=by rw [gy,if_neg e]
   have e3:mG (t::l) m=aU t+mG l (m - aU t):=by rw [mG,if_neg e]
   rw [e2,e3];grind
structure InE (n:Nat) (e:iq):Prop where
 rk : ∀ t∈e.rk,∀ p∈t,0≤p.1∧p.1<n
 ps : ∀ p∈e.ps,InL n p.2
 dis:(e.ps.flatMap (·.1)).Nodup
 mem : ∀ i∈e.ps.flatMap (·.1),i<n
theorem ai9 {n:Nat} {l:gZ} (h : ∀ t∈l,∀ p∈t,0≤p.1∧p.1<n) : ∀ {m:Rat},gy l m (-1)=0:=by
 induction l with
 | nil=>intro m;rfl
 | cons t l ih =>
  intro m
  have h1:jU t (-1)=0:=by
   have h2:=h t kc
   clear ih h
   induction t with
   | nil=>rfl
   | cons p t ih2 =>
    have:=h2 p kc
    unfold jU
    rw [if_neg jb,ih2 fun q hq=>h2 q (by simp [hq])];grind
  unfold gy
  rw [h1,ih fun u hu=>h u (by simp [hu])]
  split <;> grind
theorem abH {α:Type} (l:List α) (f:α→List Nat) (g:Nat→Rat):aF (l.flatMap f) g=aF l fun a=>aF (f a) g:=by
 induction l with
 | nil=>rfl
 | cons a l ih =>
  rw [List.flatMap_cons]
  have : ∀ (u v:List Nat),aF (u ++ v) g=aF u g+aF v g:=fun u v=>by
   induction u with
   | nil=>unfold aF;simp;grind
   | cons x u ih =>
    show g x+aF (u ++ v) g=g x+aF u g+aF v g
    rw [ih];grind
  rw [this,ih];rfl
theorem Kq (e:iq) (c:Nat):pooled e c=true↔c∈e.ps.flatMap (·.1):=by
 unfold pooled
 simp
section
variable {n:Nat} {e:iq}
theorem aja (hI:InE n e) {x:Rat} (hx:0≤x):aB n (Aq e x)=mG e.rk x:=by
 have:=Ze (n:=n) (l:=e.rk) (fun t ht p hp=>.inr (hI.rk t ht p hp)) hx
 rw [ai9 hI.rk] at this
 unfold Aq;grind
theorem afi (hI:InE n e) (g:Nat→Rat):aB n (fun c=>if pooled e c then 0 else g c)+aF e.ps (fun p=>aF p.1 g)=aB n g:=by
 rw [← abH,← Oa g _ hI.dis hI.mem,← dH]
 refine aS fun c _=>?_
 by_cases h:c∈e.ps.flatMap (·.1)
 ·rw [if_pos ((Kq e c).mpr h),if_pos h];grind
 ·rw [if_neg (fun h2=>h ((Kq e c).mp h2)),if_neg h];grind
theorem Zf (hN:J9 e) (hI:InE n e) {x:Rat} (hx:0≤x):aB n (sK e x)=mG e.rk x - aF e.ps (fun p=>lJ e x p - mG p.2 (lJ e x p)) - Zc e x:=by
 have h1:aB n (sK e x)=aB n (fun c=>if pooled e c then 0 else Aq e x c)+aF e.ps fun p=>aB n fun c=>gy p.2 (lJ e x p) c:=by
  rw [← nJ,← dH];rfl
 have h2:=afi hI (Aq e x)
 rw [aja hI hx] at h2
 have h3:aF e.ps (fun p=>aB n fun c=>gy p.2 (lJ e x p) c)=aF e.ps (fun p=>mG p.2 (lJ e x p)) - Zc e x:=by
  unfold Zc
  rw [← DI]
  refine dQ fun p hp=>?_
  have:=Ze (n:=n) (hI.ps p hp) (ou hN hx p)
  grind
 have h4:aF e.ps (fun p=>lJ e x p - mG p.2 (lJ e x p))=aF e.ps (fun p=>aF p.1 (Aq e x)) - aF e.ps (fun p=>mG p.2 (lJ e x p)):=by rw [← DI];rfl
 rw [h1,h3,h4];grind
theorem Uw (hN:J9 e) (hI:InE n e) {x y:Rat} (hx:0≤x) (hy:x≤y):x - aB n (sK e x)≤y - aB n (sK e y):=by
 rw [Zf hN hI hx,Zf hN hI (Rat.le_trans hx hy)]
 have h1:=N9 hN.rk hx hy
 have h2:=afg hN hx hy
 have h3:aF e.ps (fun p=>lJ e x p - mG p.2 (lJ e x p))≤aF e.ps fun p=>lJ e y p - mG p.2 (lJ e y p) :=
  rU fun p hp=>N9 (hN.ps p hp) (ou hN hx p) (Ko hN hx hy p)
 grind
end
/-! ### The next Uo at which the rates change -/
structure Dst (e:iq) (x:Rat) (o:Option Rat):Prop where
 yes : ∀ g,o=some g→0<g∧(∀ s,0≤s→s≤g→∀ c,sK e (x+s) c=sK e x c+s*yx e x c)∧(∀ s,0≤s→s<g→∀ c,yx e (x+s) c=yx e x c)∧opn e (x+g)<opn e x
 no:o=none→∀ s,0≤s→∀ c,sK e (x+s) c=sK e x c∧yx e (x+s) c=0
def akv (e:iq) (n:Nat) (z x:Rat):Prop:=(∀ c,c<n→yx e x c=yx e z c)∧Qm e x=Qm e z
inductive Nxt (e:iq) (n:Nat) (z:Rat):Rat→Option Rat→Prop where
 | no {x:Rat} (h:stp e x=none):Nxt e n z x none
 | stop {x g:Rat}  (h:stp e x=some g) (hs : ¬ akv e n z (x+g)):Nxt e n z x (some (x+g))
 | go {x g:Rat} {o:Option Rat}  (h:stp e x=some g) (hs:akv e n z (x+g)) (hr:Nxt e n z (x+g) o):Nxt e n z x o
structure att (e:iq) (n:Nat) (x:Rat) (o:Option Rat):Prop where
 yes : ∀ y,o=some y→x<y∧(∀ s,0≤s→s≤y - x→∀ c,c<n→sK e (x+s) c=sK e x c+s*yx e x c)∧(∀ s,0≤s→s<y - x→∀ c,c<n→yx e (x+s) c=yx e x c)∧opn e y<opn e x
 no:o=none→∀ s,0≤s→∀ c,c<n→sK e (x+s) c=sK e x c∧yx e (x+s) c=0
/-! ### aqm -/
def kJ (a:Rat):Rat:=if 0≤a then a else 0
abbrev iJ:=Nat×Nat
def mJ (W Q R:Rat):Rat:=if W≤Q then R else 0
def pF (W:Rat) (q:iJ→Rat):Rat→List iJ→Nat→Rat
 | _,[],_=>0
 | Q,l::t,j=>(if l.1=j then kJ (Q+q l - W) - kJ (Q - W) else 0)+pF W q (Q+q l) t j
def kZ (W:Rat) (q r:iJ→Rat):Rat→Rat→Rat→List iJ→Nat→Rat
 | _,_,_,[],_=>0
 | Q,R,B,l::t,j=>(if l.1=j then mJ W (Q+q l) (R+r l) - B else 0)+kZ W q r (Q+q l) (R+r l) (mJ W (Q+q l) (R+r l)) t j
def okD (W:Rat) (q r:iJ→Rat) (s:Rat):Rat→Rat→List iJ→Prop
 | _,_,[]=>True
 | Q,R,l::t=>(Q+q l<W→s*(R+r l)≤W - (Q+q l))∧okD W q r s (Q+q l) (R+r l) t
def okS (W:Rat) (q r:iJ→Rat) (s:Rat):Rat→Rat→List iJ→Prop
 | _,_,[]=>True
 | Q,R,l::t=>(Q+q l<W→s*(R+r l)<W - (Q+q l))∧okS W q r s (Q+q l) (R+r l) t
def abI (W:Rat) (q r:iJ→Rat):Rat→Rat→List iJ→List Rat
 | _,_,[]=>[]
 | Q,R,l::t=>(if Q+q l<W∧0<R+r l then [(W - (Q+q l))/(R+r l)] else []) ++ abI W q r (Q+q l) (R+r l) t
section
variable {W:Rat} {q q' r r' : iJ→Rat}
theorem Zg {Q R s:Rat} (h0:0≤s) (hR:0≤R) (h:Q<W→s*R≤W - Q):kJ (Q+s*R - W)=kJ (Q - W)+s*mJ W Q R:=by
 have:=Rat.mul_nonneg h0 hR
 unfold kJ mJ
 by_cases e:W≤Q
 ·rw [if_pos e,if_pos kf,if_pos kf];grind
 ·have:=h kf
  rw [if_neg e]
  by_cases e2:0≤Q+s*R - W
  ·rw [if_pos e2,if_neg kf];grind
  ·rw [if_neg e2,if_neg kf];grind
theorem ajb {Q R s:Rat} (h0:0≤s) (hR:0≤R) (h:Q<W→s*R≤W - Q):jW W (Q+s*R)=jW W Q+s*(R - mJ W Q R):=by
 have:=Rat.mul_nonneg h0 hR
 unfold jW mJ
 by_cases e:W≤Q
 ·rw [if_pos e,if_pos e,if_pos kf];grind
 ·have:=h kf
  rw [if_neg e,if_neg e]
  by_cases e2:W≤Q+s*R
  ·rw [if_pos e2];grind
  ·rw [if_neg e2];grind
theorem Zh {s:Rat} (h0:0≤s) (hr : ∀ l,0≤r l) (j:Nat) : ∀ (t:List iJ) (Q R:Rat),0≤R→(Q<W→s*R≤W - Q)→okD W q r s Q R t →
  pF W (fun l=>q l+s*r l) (Q+s*R) t j=pF W q Q t j+s*kZ W q r Q R (mJ W Q R) t j
 | [],Q,R,_,_,_=>by unfold pF kZ;grind
 | l::t,Q,R,hR,hQ,hok=>by
  unfold okD at hok
  have hr1:=hr l
  have ih:=Zh h0 hr j t (Q+q l) (R+r l) kf hok.1 hok.2
  unfold pF kZ
  have e:Q+s*R+(q l+s*r l)=Q+q l+s*(R+r l):=by grind
  rw [e,ih,Zg h0 kf hok.1,Zg h0 hR hQ]
  split <;> grind
theorem Zi {s:Rat} : ∀ (t:List iJ) (Q R:Rat),okD W q r s Q R t→(Q<W→s*R≤W - Q)→(Q+aF t q<W→s*(R+aF t r)≤W - (Q+aF t q))
 | [],Q,R,_,h=>by unfold aF;rw [Rat.add_zero,Rat.add_zero];exact h
 | l::t,Q,R,hok,_=>by
  have:=Zi t (Q+q l) (R+r l) hok.2 hok.1
  unfold aF
  rw [← Rat.add_assoc,← Rat.add_assoc];exact this
theorem Zj {n:Nat} (Q:Rat) (R d:Nat→Rat):mJ W Q (aB n fun i=>R i*d i)=aB n fun i=>mJ W Q (R i)*d i:=by
 unfold mJ
 by_cases e:W≤Q
 ·simp only [if_pos e]
 ·simp only [if_neg e]
  exact (dw fun i _=>by rw [Rat.zero_mul]).symm
theorem Zl {n:Nat} (d:Nat→Rat) (rr:Nat→iJ→Rat) (j:Nat) : ∀ (t:List iJ) (Q:Rat) (R B:Nat→Rat),
  kZ W q (fun l=>aB n fun i=>rr i l*d i) Q (aB n fun i=>R i*d i) (aB n fun i=>B i*d i) t j=aB n fun i=>kZ W q (rr i) Q (R i) (B i) t j*d i
 | [],Q,R,B=>by unfold kZ;exact (dw fun i _=>by rw [Rat.zero_mul]).symm
 | l::t,Q,R,B=>by
  have e1:aB n (fun i=>R i*d i)+aB n (fun i=>rr i l*d i)=aB n fun i=>(R i+rr i l)*d i:=by rw [← dH];exact aS fun i _=>by rw [Rat.add_mul]
  have e2 : ∀ i,kZ W q (rr i) Q (R i) (B i) (l::t) j=(if l.1=j then mJ W (Q+q l) (R i+rr i l) - B i else 0)+kZ W q (rr i) (Q+q l) (R i+rr i l) (mJ W (Q+q l) (R i+rr i l)) t j:=fun i=>rfl
  have e3:aB n (fun i=>kZ W q (rr i) Q (R i) (B i) (l::t) j*d i)=aB n (fun i=>(if l.1=j then mJ W (Q+q l) (R i+rr i l) - B i else 0)*d i)+aB n fun i=>kZ W q (rr i) (Q+q l) (R i+rr i l) (mJ W (Q+q l) (R i+rr i l)) t j*d i:=by
   rw [← dH];exact aS fun i _=>by rw [e2,Rat.add_mul]
  rw [e3,← Zl d rr j t (Q+q l) (fun i=>R i+rr i l) fun i=>mJ W (Q+q l) (R i+rr i l)]
  rw [kZ,e1,Zj]
  congr 1
  by_cases e:l.1=j
  ·simp only [if_pos e]
   rw [← kH]
   exact aS fun i _=>by grind
  ·simp only [if_neg e]
   exact (dw fun i _=>by rw [Rat.zero_mul]).symm
theorem anh {Q R a b:Rat} (ha:0≤a) (hb:0≤b) (hR:0≤R):mJ W Q R≤mJ W (Q+a) (R+b)∧0≤mJ W (Q+a) (R+b):=by
 unfold mJ
 by_cases e:W≤Q
 ·rw [if_pos e,if_pos kf];grind
 ·rw [if_neg e];split <;> grind
theorem afj (hq : ∀ l,0≤q l) (hr : ∀ l,0≤r l) (j:Nat) : ∀ (t:List iJ) (Q R:Rat),0≤R→0≤kZ W q r Q R (mJ W Q R) t j
 | [],_,_,_=>by unfold kZ;exact Rat.le_refl
 | l::t,Q,R,hR=>by
  have h1:=anh (W:=W) (Q:=Q) (hq l) (hr l) hR
  have:=hr l
  have ih:=afj hq hr j t (Q+q l) (R+r l) kf
  unfold kZ
  split <;> grind
theorem Zm {n:Nat} : ∀ (t:List iJ) (Q:Rat),(∀ l∈t,l.1<n)→aB n (fun j=>pF W q Q t j)=kJ (Q+aF t q - W) - kJ (Q - W)
 | [],Q,_=>by
  have:aB n (fun j=>pF W q Q [] j)=0:=dw fun _ _=>rfl
  rw [this];unfold aF;grind
 | l::t,Q,hl=>by
  have ih:=Zm (n:=n) t (Q+q l) fun u hu=>hl u (by simp [hu])
  have e:aB n (fun j=>pF W q Q (l::t) j)=aB n (fun j=>if l.1=j then kJ (Q+q l - W) - kJ (Q - W) else 0)+aB n fun j=>pF W q (Q+q l) t j:=by rw [← dH];rfl
  have e2:aB n (fun j=>if l.1=j then kJ (Q+q l - W) - kJ (Q - W) else 0)=kJ (Q+q l - W) - kJ (Q - W):=by
   rw [jI (k:=l.1) (hl l kc) fun i _ hne=>if_neg fun h=>hne h.symm,if_pos rfl]
  have e3:Q+aF (l::t) q=Q+q l+aF t q:=by show Q+(q l+aF t q)=_;grind
  rw [e,ih,e2,e3];grind
theorem Zn {s:Rat} (h0:0≤s) (hr : ∀ l,0≤r l) : ∀ (t:List iJ) (Q R:Rat),0≤R→(∀ v∈abI W q r Q R t,s≤v)→okD W q r s Q R t
 | [],_,_,_,_=>trivial
 | l::t,Q,R,hR,h=>by
  have hr1:=hr l
  refine ⟨fun hlt=>?_,Zn h0 hr t _ _ kf fun v hv=>h v (by unfold abI;simp [hv])⟩
  by_cases e:0<R+r l
  ·exact vP e (h _ (by unfold abI;rw [if_pos ⟨hlt,e⟩];simp))
  ·have:R+r l=0:=by grind
   rw [this];grind
end
end Go.Proofs.Ins
namespace Go.Proofs.Xe
open Go.RowKit Go.Proofs.Ins
def wK (p:Int×Rat):List B:=[.int .i64 p.1,.bool (rn p.2),.str (rs p.2),.str (rd p.2)]
def jC (ps:B) (s:Rat):List B:=[ps,.bool (rn s),.str (rs s),.str (rd s)]
def Fb (h:Tr Bk) (v:B) (l:gZ):Prop :=
 ∃ G:Nat→B,HL h 4 v l.length (fun i=>jC (G i) (aU (ix l i)))∧aix v∧∀ i,i<l.length→HL h 4 (G i) (ix l i).length fun j=>wK (ix (ix l i) j)
theorem Fb.fr {σ σ' : St} (hW:WF σ) (hf:Fr σ σ') {v:B} {l:gZ} (h:Fb σ.h v l):Fb σ'.h v l:=by
 obtain ⟨G,h1,h2,h3⟩:=h
 exact ⟨G,h1.fr hW hf,h2,fun i hi=>(h3 i hi).fr hW hf⟩
def jJ:gZ→Rat→Rat
 | [],m=>m
 | t::l,m=>if m<aU t then m else jJ l (m - aU t)
def zq (l:gZ) (k:Nat):Rat:=uF (l.take k)
theorem ash (a b c:Rat):a - b - c=a - (b+c):=by grind
theorem Ob {l:gZ} {j:Nat} (h:j<l.length):zq l (j+1)=zq l j+aU (ix l j):=by
 unfold zq
 rw [aZ h]
 generalize l.take j=p
 induction p with
 | nil=>show aU (ix l j)+uF []=uF []+_;unfold uF;grind
 | cons t p ih=>show aU t+uF (p ++ [ix l j])=aU t+uF p+_;rw [ih];grind
theorem Qo {α:Type} [Inhabited α] {l:List α} {j:Nat} (h:j<l.length):l.drop j=ix l j::l.drop (j+1):=by
 rw [List.drop_eq_getElem_cons h,dZ h]
theorem Zo (l:gZ) (v:B) (m:Rat) (σ:St) (hW:WF σ) (hL:Fb σ.h v l) (hs : ∀ i,i<l.length→Sz (aU (ix l i))) (hm : ∀ k,k≤l.length→Sz (m - zq l k)) (hn:l.length≤1000000) :
  aO EN 129 [.c v,.agg [.bool (rn m),.str (rs m),.str (rd m)]] σ fun r σ'=>r = .cZ (.c (.int .i64 (.ofNat (eP l m)))) (.cZ (.agg [.bool (rn (jJ l m)),.str (rs (jJ l m)),.str (rd (jJ l m))]) .tnil)∧Fr σ σ':=by
 refine bF (jA.o _ _) jA.h ?_
 unfold jA
 dsimp only
 obtain ⟨G,hG,-,hP⟩:=hL
 have hlen:=hG.len
 simp (maxSteps:=9^9) (disch:=try exact jz) only [go_sem,z3,hlen]
 refine aN (fun k tm σ'=>∃ j x,k=l.length - j∧j≤l.length∧Tr.aj tm 0 = .c v∧Tr.aj tm 8 = .c v∧Tr.aj tm 9 = .c (.int .i64 (.ofNat l.length))∧Tr.aj tm 10 = .c (.int .i64 (.ofNat j))∧Tr.aj tm 3 = .c (.ptr σ.ah 0)∧Tr.aj tm 5 = .c (.ptr (σ.ah+1) 0)
  ∧ σ'.h σ.ah=some ⟨[.bool (rn x),.str (rs x),.str (rd x)],none⟩∧σ'.h (σ.ah+1)=some ⟨[.bool (rn 0),.str (rs 0),.str (rd 0)],none⟩∧Fr σ σ'∧σ.ah+2≤σ'.ah∧x=m - zq l j∧eP l m=j+eP (l.drop j) x∧jJ l m=jJ (l.drop j) x) l.length ?_ ?_
 ·refine ⟨0,m,jb,jb,?_⟩
  have hF:Fr σ ⟨hset (hset σ.h σ.ah ⟨[.bool (rn m),.str (rs m),.str (rd m)],none⟩) (σ.ah+1) ⟨[.bool (rn 0),.str (rs 0),.str (rd 0)],none⟩,σ.ah+1+1⟩:=((Fr.refl hW).new _).new _
  simp (maxSteps:=9^9) (disch:=try exact jz) only [go_sem,z3,true_and,List.drop_zero]
  refine ⟨hF,jb,?_⟩
  unfold zq uF;simp;grind
 ·rintro k tm σ' ⟨j,x,rfl,hj,t0,t8,t9,t10,t3,t5,h0,h1,hf,hnx,hx,abJ,Xz⟩
  simp (maxSteps:=9^9) (disch:=try exact jz) only [go_sem,z3,t0,t8,t9,t10,t3,t5]
  refine aI (fun hlt=>?_) (fun hlt=>?_)
  ·obtain ⟨b,o,c,rfl,hld⟩:=hG.pos jb
   have hld:=hf.ld hW (hld j hlt)
   unfold jC at hld
   have hb:=hf.wf.eU hld
   have hsz:=hs j hlt
   have hxz:Sz x:=hx ▸ hm j hj
   have hdr:=Qo hlt
   have hmz:=hm (j+1) hlt
   rw [Ob hlt] at hmz
   rw [hdr,eP] at abJ
   rw [hdr,jJ] at Xz
   generalize hts:aU (ix l j)=s at *
   have hxs:Sz (x - s):=by rw [hx];rwa [show m - zq l j - s=m - (zq l j+s) by grind]
   simp (maxSteps:=9^9) (disch:=try exact jz) only [go_sem,z3,t0,t8,t9,t10,t3,t5,hld,au h0,show Int.ofNat 0=0 from rfl]
   refine aI (fun hxl=>?_) (fun hxl=>?_)
   ·simp (maxSteps:=9^9) (disch:=try exact jz) only [go_sem,z3,t0,t8,t9,t10,t3,t5,au h0,h0,h1]
    rw [abJ,Xz,if_pos hxl,if_pos hxl]
    refine ⟨rfl,?_⟩
    exact fr
   ·simp (maxSteps:=9^9) (disch:=try exact jz) only [go_sem,z3,t0,t8,t9,t10,t3,t5,au h0,h0,h1]
    rw [if_neg hxl] at abJ Xz
    refine ⟨l.length - (j+1),jb,j+1,x - s,rfl,jb,rfl,rfl,?_,jb,by rw [Ob hlt,hx,hts];exact ash _ _ _,jb,Xz⟩
    exact fr
  ·have:j=l.length:=jb
   subst this
   simp only [List.drop_length] at abJ Xz
   rw [eP] at abJ
   rw [jJ] at Xz
   simp (maxSteps:=9^9) (disch:=try exact jz) only [go_sem,z3,t0,t8,t9,t10,t3,t5,au h0,aX h1,hlen]
   rw [abJ,Xz]
   refine ⟨rfl,?_⟩
   exact fr
structure oz (h:Tr Bk) (rb bc n:Nat) (o:Option (Nat×Nat)) (c:Cap) (f:Int→Rat):Prop where
 r:h rb=some ⟨[.sl bc 0 n c,.bool (rn (f (-1))),.str (rs (f (-1))),.str (rd (f (-1)))],none⟩
 c:h bc=some ⟨dO n fun i=>f i,o⟩
 pl:plo o=true
 rd:rdo o=true
 ne:rb≠bc
def Qp (f:Int→Rat) (k:Int) (q:Rat):Int→Rat:=fun c=>f c+if c=k then q else 0
theorem oz.set {h:Tr Bk} {rb bc n b:Nat} {o:Option (Nat×Nat)} {c:Cap} {f:Int→Rat} (hr:oz h rb bc n o c f) (h1:rb≠b) (h2:bc≠b) (k:Bk):oz (hset h b k) rb bc n o c f :=
 ⟨by rw [ak _ _ _ _ h1];exact hr.r,by rw [ak _ _ _ _ h2];exact hr.c,hr.pl,hr.rd,hr.ne⟩
theorem oz.set2 {h:Tr Bk} {rb bc n b:Nat} {o:Option (Nat×Nat)} {c:Cap} {f:Int→Rat} (hr:oz h rb bc n o c f) (h1:rb≠b) (h2:bc≠b) {k k' : Bk} : oz (hset (hset h b k) b k') rb bc n o c f:=(hr.set h1 h2 k).set h1 h2 k'
theorem aqn {σ:St} (hW:WF σ) {rb bc n:Nat} {o:Option (Nat×Nat)} {c:Cap} {f:Int→Rat} (hr:oz σ.h rb bc n o c f) (q:Rat) (hq:Sz q) (hz:Sz (f (-1))) :
  aO EN 130 [.c (.ptr rb 0),.c (.int .i64 (.negSucc 0)),.agg [.bool (rn q),.str (rs q),.str (rd q)]] σ fun _ σ'=>oz σ'.h rb bc n o c (Qp f (-1) q)∧fE [rb,bc] σ σ':=by
 refine bF (fA.o _ _) fA.h ?_
 unfold fA
 dsimp only
 obtain ⟨h0,h1,hpl,hrd,hne⟩:=hr
 have l0:=hW.lt h0
 have l1:=hW.lt h1
 simp (maxSteps:=9^9) (disch:=try exact jz) only [go_sem,z3,au h0,h0]
 refine ⟨⟨?_,?_,hpl,hrd,hne⟩,?_⟩
 ·rw [aA];simp [Qp]
 ·rw [ak _ _ _ _ hne.symm,ak _ _ _ _ jb,h1,gB]
  intro i _
  unfold Qp
  rw [if_neg jb];grind
 ·repeat (first|assumption|exact fE.refl (by assumption)|exact fE.up (by assumption) (by first|omega|(dsimp only;omega))|exact fE.up (fE.refl (by assumption)) (by first|omega|(dsimp only;omega))|refine fE.set1 ?_ (by first|(left;omega)|(left;dsimp only;omega)|(right;simp)) (by first|omega|(dsimp only;omega))|refine fE.yV ?_ (by first|(left;omega)|(left;dsimp only;omega)|(right;simp))|refine fE.Gv ?_ (by first|(left;omega)|(left;dsimp only;omega)|(right;simp))|refine fE.MB ?_ (by first|omega|(dsimp only;omega)))
theorem aqo {σ:St} (hW:WF σ) {rb bc n:Nat} {o:Option (Nat×Nat)} {c:Cap} {f:Int→Rat} (hr:oz σ.h rb bc n o c f) (q:Rat) (hq:Sz q) (k:Nat) (hz:Sz (f k)) (hk:k<n) :
  aO EN 130 [.c (.ptr rb 0),.c (.int .i64 (.ofNat k)),.agg [.bool (rn q),.str (rs q),.str (rd q)]] σ fun _ σ'=>oz σ'.h rb bc n o c (Qp f k q)∧fE [rb,bc] σ σ':=by
 refine bF (fA.o _ _) fA.h ?_
 unfold fA
 dsimp only
 obtain ⟨h0,h1,hpl,hrd,hne⟩:=hr
 have l0:=hW.lt h0
 have l1:=hW.lt h1
 simp (maxSteps:=9^9) (disch:=try exact jz) only [go_sem,z3,au h0,au h1,h0,h1,hrd,hpl]
 refine ⟨⟨?_,?_,hpl,hrd,hne⟩,?_⟩
 ·rw [ak _ _ _ _ hne,ak _ _ _ _ jb,h0]
  unfold Qp
  rw [if_neg jb,Rat.add_zero]
 ·rw [aA]
  congr 2
  refine gB fun i _=>?_
  unfold Qp aK
  by_cases e:i=k
  ·rw [if_pos e,if_pos jb,e]
  ·rw [if_neg e,if_neg jb,Rat.add_zero]
 ·repeat (first|assumption|exact fE.refl (by assumption)|exact fE.up (by assumption) (by first|omega|(dsimp only;omega))|exact fE.up (fE.refl (by assumption)) (by first|omega|(dsimp only;omega))|refine fE.set1 ?_ (by first|(left;omega)|(left;dsimp only;omega)|(right;simp)) (by first|omega|(dsimp only;omega))|refine fE.yV ?_ (by first|(left;omega)|(left;dsimp only;omega)|(right;simp))|refine fE.Gv ?_ (by first|(left;omega)|(left;dsimp only;omega)|(right;simp))|refine fE.MB ?_ (by first|omega|(dsimp only;omega)))
theorem akw {σ:St} (hW:WF σ) {rb bc n:Nat} {o:Option (Nat×Nat)} {c:Cap} {f:Int→Rat} (hr:oz σ.h rb bc n o c f) (q:Rat) (hq:Sz q) (k:Int) (hz:Sz (f k)) (hk:k = -1∨(0≤k∧k<n)) :
  aO EN 130 [.c (.ptr rb 0),.c (.int .i64 k),.agg [.bool (rn q),.str (rs q),.str (rd q)]] σ fun _ σ'=>oz σ'.h rb bc n o c (Qp f k q)∧fE [rb,bc] σ σ':=by
 rcases hk with rfl|⟨h1,h2⟩
 ·exact aqn hW hr q hq hz
 ·obtain ⟨j,rfl⟩:=Int.eq_ofNat_of_zero_le h1
  exact aqo hW hr q hq j hz jb
theorem oz.fr {σ σ' : St} {rb bc n:Nat} {o:Option (Nat×Nat)} {c:Cap} {f:Int→Rat} (hW:WF σ) (hf:Fr σ σ') (hr:oz σ.h rb bc n o c f):oz σ'.h rb bc n o c f :=
 ⟨hf.get hW hr.r,hf.get hW hr.c,hr.pl,hr.rd,hr.ne⟩
theorem u1:1≤256 ^ uK:=Nat.pow_pos jj
theorem abK (t:dJ) (p:Int×Rat) (c:Int):jU (t ++ [p]) c=jU t c+if c=p.1 then p.2 else 0:=by
 induction t with
 | nil =>
  show (if p.1=c then p.2 else 0)+0=0+if c=p.1 then p.2 else 0
  by_cases h:p.1=c
  ·rw [if_pos h,if_pos h.symm];grind
  ·rw [if_neg h,if_neg (Ne.symm h)]
 | cons r t ih =>
  show (if r.1=c then r.2 else 0)+jU (t ++ [p]) c=(if r.1=c then r.2 else 0)+jU t c+_
  rw [ih];grind
def XA (f:Int→Rat) (t:dJ) (u:Rat) (c:Int):Rat:=f c+jU t c*u
theorem Zp (f:Int→Rat) (u:Rat):XA f [] u=f:=by
 funext c
 show f c+0*u=f c
 grind
theorem Uy (f:Int→Rat) (t:dJ) (p:Int×Rat) (u:Rat):Qp (XA f t u) p.1 (p.2*u)=XA f (t ++ [p]) u:=by
 funext c
 unfold Qp XA
 rw [abK]
 split <;> grind
theorem take_snoc {α:Type} [Inhabited α] {t:List α} {j:Nat} (h:j<t.length):t.take (j+1)=t.take j ++ [ix t j]:=by rw [aZ h]
theorem iE {α:Type} [Inhabited α] {t:List α} {j:Nat} (h:j<t.length):ix t j∈t:=by
 rw [dZ h];exact List.getElem_mem h
theorem Zq {σ0 σ:St} (hW0:WF σ0) (hf:Fr σ0 σ) {rb bc n:Nat} {o:Option (Nat×Nat)} {c:Cap} {f:Int→Rat} (hrb:σ0.ah≤rb) (hbc:σ0.ah≤bc) (hr:oz σ.h rb bc n o c f)
  (t:dJ) (G:B) (hG:HL σ0.h 4 G t.length fun j=>wK (ix t j)) (x:Rat) (hx:Sz x) (hs:Sz (aU t)) (h0:aU t≠0) (hqz:Sz (x/aU t)) {D k:Nat} (hD:Ae D) (hZ : ∀ c,Zk D k (f c))
  (hp : ∀ p∈t,(p.1 = -1∨(0≤p.1∧p.1<n))∧Sz p.2∧Zk D 1 (p.2*(x/aU t))) (hk:k+t.length≤256 ^ uK) (hn:t.length≤1000000) :
  aO EN 131 [.c (.ptr rb 0),.agg (jC G (aU t)),.agg [.bool (rn x),.str (rs x),.str (rd x)]] σ fun _ σ'=>oz σ'.h rb bc n o c (XA f t (x/aU t))∧(∀ c,Zk D (k+t.length) (XA f t (x/aU t) c))∧fE [rb,bc] σ σ':=by
 refine bF (jB.o _ _) jB.h ?_
 unfold jB jC
 dsimp only
 have l0:=hf.wf.lt hr.r
 have l1:=hf.wf.lt hr.c
 have hlen:=hG.len
 have hkn:=hG.kn
 have hu:xB x (aU t)=x/aU t:=by unfold xB;rw [if_neg h0]
 generalize x/aU t=u at *
 have hW:=hf.wf
 simp (maxSteps:=9^9) (disch:=try exact jz) only [go_sem,z3,hlen,hu,hkn]
 refine bM.st (Fr σ) (fr) fun hF=>?_
 refine aN (fun m tm σ'=>∃ j,m=t.length - j∧j≤t.length∧Tr.aj tm 0 = .c (.ptr rb 0)∧Tr.aj tm 6 = .c (.ptr (σ.ah+1+1) 0)∧Tr.aj tm 18 = .c G∧Tr.aj tm 19 = .c (.int .i64 (.ofNat t.length))∧Tr.aj tm 20 = .c (.int .i64 (.ofNat j))
  ∧ σ'.h (σ.ah+1+1)=some ⟨[.bool (rn u),.str (rs u),.str (rd u)],none⟩∧oz σ'.h rb bc n o c (XA f (t.take j) u)∧(∀ c,Zk D (k+j) (XA f (t.take j) u c))∧fE [rb,bc] σ σ'∧σ.ah+3≤σ'.ah) t.length ?_ ?_
 ·refine ⟨0,jb,jb,?_⟩
  simp (maxSteps:=9^9) (disch:=try exact jz) only [go_sem,z3,true_and,List.take_zero,Zp]
  exact ⟨hr.fr hf.wf hF,hZ,hF.ex _,jb⟩
 ·rintro m tm σ' ⟨j,rfl,hj,t0,t6,oK,t19,t20,hq,hr',hZ',hf',hnx⟩
  simp (maxSteps:=9^9) (disch:=try exact jz) only [go_sem,z3,t0,t6,oK,t19,t20]
  refine aI (fun hlt=>?_) (fun hlt=>?_)
  ·obtain ⟨b,o',c',rfl,hld⟩:=hG.pos jb
   have hld:=hld j hlt
   have hb0:=hW0.eU hld
   have hld:=hf'.ld hf.wf (by simp;omega) (hf.ld hW0 hld)
   have hpp:=hp _ (iE hlt)
   unfold wK at hld
   have hb:=hf'.wf.eU hld
   have hsn:=Uy f (t.take j) (ix t j) u
   rw [← take_snoc hlt] at hsn
   generalize ix t j=p at *
   obtain ⟨hp1,hp2,hp3⟩:=hpp
   simp (maxSteps:=9^9) (disch:=try exact jz) only [go_sem,z3,t0,t6,oK,t19,t20,hld,au hq]
   refine aO.st (Fr σ') (by have hW':=hf'.wf;exact fr) fun hF=>?_
   refine (akw hF.wf (hr'.fr hf'.wf hF) _ (hp3.sz hD u1) _ ((hZ' _).sz hD (Nat.le_trans jb hk)) hp1).mono ?_
   rintro _ σ2 ⟨hr2,hf2⟩
   have hf3:fE [rb,bc] σ' σ2:=fE.trans (hF.ex _) hf2
   have hl2:σ'.ah+1≤σ2.ah:=hf2.le
   have hle:=hf'.le
   simp (maxSteps:=9^9) (disch:=try exact jz) only [go_sem,z3,t0,t6,oK,t19,t20]
   refine ⟨t.length - (j+1),jb,j+1,rfl,jb,rfl,hf3.get hf'.wf (by simp;omega) hq,hsn ▸ hr2,fun c=>?_,hf'.trans hf3,jb⟩
   rw [← hsn]
   refine (hZ' c).add (l:=1) ?_
   split
   ·exact hp3
   ·exact Zk.zero
  ·have:j=t.length:=jb
   subst this
   rw [List.take_length] at hr' hZ'
   simp (maxSteps:=9^9) (disch:=try exact jz) only [go_sem,z3,t0,t6,oK,t19,t20]
   exact ⟨hr',hZ',hf'⟩
end Go.Proofs.Xe
