/- The bJ: a region that draws its order, whole. -/
import Derived.Test.YtjonjhcaniinaaaGreatDoorZ13
set_option linter.all false
namespace Go.Proofs.Xe
open Go.RowKit Go.Proofs.Ins
section
variable {P:Program} {N:Nat} {w0 w w' : World} {φ φ' : Ph} {σ σ' : St} {tm tm' : Tr V} {a:Act} {v:V}
theorem RB.mono (h : ∀ b p,φ b=some p→φ' b=some p) {x:B} {u:Value} (hv:RB φ x u):RB φ' x u:=by
 cases x <;> simp only [RB] at hv ⊢ <;> try exact hv
 case ptr b o=>obtain ⟨p,hp,e⟩:=hv;exact ⟨p,h _ _ hp,e⟩
 case sl b o n c =>
  rcases hv with ⟨p,K,hp,e,r⟩|hv
  ·exact .inl ⟨p,K,h _ _ hp,e,r⟩
  ·exact .inr hv
 case mp b=>obtain ⟨p,hp,e⟩:=hv;exact ⟨p,h _ _ hp,e⟩
theorem kL.mono (h : ∀ b p,φ b=some p→φ' b=some p) : ∀ {l:List B} {r:List Value},kL φ l r→kL φ' l r
 | [],[],_=>trivial
 | _::_,_::_,hv=>⟨hv.1.mono h,kL.mono h hv.2⟩
 | [],_::_,hv=>hv.elim
 | _::_,[],hv=>hv.elim
theorem RV.mono (h : ∀ b p,φ b=some p→φ' b=some p) : ∀ {x:V} {u:Value},RV φ x u→RV φ' x u
 | .c _,_,hv=>RB.mono h hv
 | .agg _,_,⟨r,e,hr⟩=>⟨r,e,hr.mono h⟩
 | .fn _ _,_,⟨r,e,hr⟩=>⟨r,e,hr.mono h⟩
 | .Jl,_,hv=>hv
 | .tnil,_,hv=>hv
 | .cZ _ _,_,⟨x,xs,e,h1,h2⟩=>⟨x,xs,e,h1.mono h,h2.mono h⟩
 | .und,_,_=>trivial
theorem RT.mono (h : ∀ b p,φ b=some p→φ' b=some p) (ht:RT φ tm a):RT φ' tm a:=fun t u hu=>(ht t u hu).mono h
def wH (listed:Array Bool) (i:Nat):Prop:=listed.getD i false=true
theorem ji {listed:Array Bool} {i:Nat} (hi:i<listed.size) (j:Nat):wH (listed.setIfInBounds i true) j↔j=i∨wH listed j:=by
 unfold wH
 simp only [Array.getD_eq_getD_getElem?,Array.getElem?_setIfInBounds]
 by_cases e:i=j
 ·subst e;simp [hi]
 ·rw [if_neg e];simp [show ¬ j=i from fun h=>e h.symm]
theorem JI {listed:Array Bool} {i:Nat} (h:listed.getD i true=false) : ¬ wH listed i:=by
 unfold wH
 simp only [Array.getD_eq_getD_getElem?] at h ⊢
 cases hl:listed[i]? with
 | none=>rw [hl] at h;simp at h
 | some b=>rw [hl] at h;simp only [Option.getD_some] at h ⊢;rw [h];simp
theorem aaH {listed:Array Bool} {i:Nat} (hi:i<listed.size) (h : ¬ wH listed i):listed.getD i true=false:=by
 unfold wH at h
 simp only [Array.getD_eq_getD_getElem?] at h ⊢
 rw [Array.getElem?_eq_getElem hi] at h ⊢
 simpa using h
theorem YK {p q:Nat→Bool} (h : ∀ x,q x=true→p x=true) : ∀ l:List Nat,(l.filter q).length≤(l.filter p).length
 | []=>jp
 | x::l=>by
  have ih:=YK h l
  rw [List.filter_cons,List.filter_cons]
  by_cases hq:q x=true
  ·rw [if_pos hq,if_pos (h x hq)];simp only [List.length_cons];omega
  ·rw [if_neg hq]
   split
   ·simp only [List.length_cons];omega
   ·exact ih
theorem YL {p q:Nat→Bool} (h : ∀ x,q x=true→p x=true) {i:Nat} (hp:p i=true) (hq : ¬ q i=true) : ∀ l:List Nat,i∈l→(l.filter q).length<(l.filter p).length
 | [],hi=>by cases hi
 | x::l,hi=>by
  rw [List.filter_cons,List.filter_cons]
  rcases List.mem_cons.mp hi with rfl|hi
  ·rw [if_neg hq,if_pos hp]
   have:=YK h l
   simp only [List.length_cons];omega
  ·have ih:=YL h hp hq l hi
   by_cases hqx:q x=true
   ·rw [if_pos hqx,if_pos (h x hqx)];simp only [List.length_cons];omega
   ·rw [if_neg hqx]
    split
    ·simp only [List.length_cons];omega
    ·exact ih
def cnt (n:Nat) (listed:Array Bool):Nat:=((List.range n).filter fun j=>!listed.getD j false).length
theorem ahy {n i:Nat} {listed:Array Bool} (hs:listed.size=n) (hi:i<n) (hl : ¬ wH listed i):cnt n (listed.setIfInBounds i true)<cnt n listed:=by
 unfold cnt
 refine YL (fun x hx=>?_) (i:=i) ?_ ?_ _ (List.mem_range.mpr hi)
 ·have h1 : ¬ wH (listed.setIfInBounds i true) x:=by unfold wH;simpa using hx
  rw [ji jb] at h1
  have h2 : ¬ wH listed x:=fun e=>h1 (.inr e)
  unfold wH at h2
  simpa using h2
 ·unfold wH at hl;simpa using hl
 ·have:=(ji (listed:=listed) (i:=i) jb i).mpr (.inl rfl)
  unfold wH at this
  simp [this]
theorem ady {n:Nat} {listed:Array Bool} (h:cnt n listed=0) : ∀ i,i<n→wH listed i:=fun i hi=>by
 refine Classical.byContradiction fun hl=>?_
 have:i∈(List.range n).filter fun j=>!listed.getD j false:=by
  rw [List.mem_filter]
  exact ⟨List.mem_range.mpr hi,by unfold wH at hl;simpa using hl⟩
 rw [List.eq_nil_of_length_eq_zero h] at this
 cases this
theorem oU : ∀ {l r:List DO},nU (l ++ r)=true→nU l=true∧nU r=true∧∀ x∈l,∀ y∈r,x.i≠y.i
 | [],r,h=>⟨rfl,h,fun x hx=>by cases hx⟩
 | z::l,r,h=>by
  rw [List.cons_append] at h
  unfold nU at h
  rw [Bool.and_eq_true,List.all_eq_true] at h
  obtain ⟨h1,h2⟩:=h
  obtain ⟨q1,q2,q3⟩:=oU h2
  refine ⟨?_,q2,fun x hx y hy=>?_⟩
  ·unfold nU
   rw [Bool.and_eq_true,List.all_eq_true]
   exact ⟨fun y hy=>h1 y (by simp [hy]),q1⟩
  ·rcases List.mem_cons.mp hx with rfl|hx
   ·have:=h1 y (by simp [hy])
    rw [Bool.and_eq_true] at this
    intro e
    rw [e] at this
    simp at this
   ·exact q3 x hx y hy
theorem NP {bZ bf:Tr V} : ∀ (qs:List DO) (σ:St) (res:List Rs) (pd:List iD) (σ' : St) (res' : List Rs) (pd' : List iD),rJ bZ bf qs σ res pd=some (σ',res',pd')→nU qs=true →
  (∀ r∈res,∀ y∈qs,r.i≠y.i)→(∀ r∈res,∀ r'∈res,r.i=r'.i→r=r')→∀ r∈res',∀ r'∈res',r.i=r'.i→r=r'
 | [],σ,res,pd,σ',res',pd',h,_,_,hu=>by
  simp only [rJ,Option.some.injEq,Prod.mk.injEq] at h
  obtain ⟨-,rfl,-⟩:=h
  exact hu
 | x::qs,σ,res,pd,σ',res',pd',h,ha,hr,hu=>by
  obtain ⟨-,a2,a3⟩:=oU (l:=[x]) (r:=qs) ha
  have step : ∀ (v:V) (σ1:St) (pd1:List iD),rJ bZ bf qs σ1 (⟨x.i,x.o.dst,v⟩::res) pd1=some (σ',res',pd')→∀ r∈res',∀ r'∈res',r.i=r'.i→r=r':=fun v σ1 pd1 h1 =>
   NP qs σ1 _ pd1 σ' res' pd' h1 a2 (fun r hr' y hy=>by
    rcases List.mem_cons.mp hr' with rfl|hr'
    ·exact a3 x kc y hy
    ·exact hr r hr' y (by simp [hy])) (fun r h2 r' h3 e=>by
    rcases List.mem_cons.mp h2 with rfl|h2 <;> rcases List.mem_cons.mp h3 with rfl|h3
    ·rfl
    ·exact absurd e.symm (hr r' h3 x kc)
    ·exact absurd e (hr r h2 x kc)
    ·exact hu r h2 r' h3 e)
  unfold rJ at h
  split at h
  ·split at h
   ·split at h
    ·split at h
     ·exact step _ _ _ h
     ·cases h
    ·split at h
     ·split at h
      ·exact step _ _ _ h
      ·cases h
     ·cases h
    ·cases h
   ·split at h
    ·exact step _ _ _ h
    ·exact step _ _ _ h
    ·cases h
   ·cases h
  ·cases h
structure yS (N:Nat) (w0:World) (P:Program) (K:Nat) (ops:Array Oper) (pt:List (List Nat)) (all:List DO) (m:Nat) (φ0:Ph) (bZ bf:Tr V) (a0:Act) (rest:List DO) (σ:St) (res:List Rs) (pd:List iD) (φ:Ph)
  (listed:Array Bool) (a:Act) (w:World):Prop where
 rel:Rel N w0 φ σ w
 lg:Lg φ (wH listed) bZ bf all res a
 pok : ∀ p∈pd,PO P K ops pt all bZ bf res p
 YM:Names φ (wH listed) σ pd
 low : ∀ p∈pd,∀ b,p.nm=some b→m≤b
 ext:Ext m φ0 φ
 mle:m≤σ.ah
 clo : ∀ i,wH listed i→∀ p,(pt.getD i []).contains p=true→wH listed p
 cov : ∀ i,i<ops.size→wH listed i∨(∃ p∈pd,p.i=i)∨∃ y∈rest,y.i=i
 unl : ∀ y∈rest,¬ wH listed y.i
 lsz:listed.size=ops.size
 ksz:K≤a.tmps.size
 dfr:a.defers=a0.defers
 rin : ∀ r∈res,∃ y∈all,y.i=r.i∧y.o.dst=r.d
 run : ∀ r∈res,∀ r'∈res,r.i=r'.i→r=r'
 rre : ∀ r∈res,∀ y∈rest,r.i≠y.i
structure DSt (P:Program) (K:Nat) (ops:Array Oper) (pt:List (List Nat)) (ds:List Nat) (all:List DO) (bf:Tr V):Prop where
 osk : ∀ x∈all,∀ t∈x.os,∀ y∈all,y.o.dst=some t→(pt.getD y.i []).contains x.i=true
 dok : ∀ x∈all,aaG P K ops pt ds x=true
 apd:nU all=true
 pto : ∀ i,i<ops.size→ahx ops pt i=true
 ers : ∀ d∈ds,bf.get d=none
variable {K:Nat} {ops:Array Oper} {pt:List (List Nat)} {ds:List Nat} {all rest:List DO} {m:Nat} {φ0:Ph} {bZ bf:Tr V} {a0:Act} {res res' : List Rs} {pd pd' : List iD} {listed:Array Bool}
theorem zY {x:DO} (h:aaG P K ops pt ds x=true) : ∃ o,ops[x.i]?=some o∧JD P K ops o x.o=true∧(∀ u∈x.us,(pt.getD x.i []).contains u=true)∧(∀ d,x.o.dst=some d→d∈ds)∧o.dst=x.o.dst∧∀ d,o.dst=some d→d<K:=by
 unfold aaG at h
 split at h
 ·next o ho =>
  simp only [Bool.and_eq_true,List.all_eq_true] at h
  obtain ⟨h1,h2,h3⟩:=h
  have h1':=h1
  unfold JD at h1'
  simp only [Bool.and_eq_true] at h1'
  obtain ⟨-,g2,-⟩:=h1'
  obtain ⟨d1,d2⟩:=Bg g2
  exact ⟨o,ho,h1,h2,fun d hd=>by rw [hd] at h3;simpa using h3,d1,d2⟩
 ·cases h
theorem DSt.pre (S:DSt P K ops pt ds all bf) (arN : ∀ i,wH listed i→∀ p,(pt.getD i []).contains p=true→wH listed p) {i:Nat} (hi:i∈Region.ready .any ops listed) :
  ∀ p,(pt.getD i []).contains p=true→wH listed p:=by
 obtain ⟨-,o,ho,hall⟩:=mem_ready.1 hi
 have hlt:i<ops.size:=by
  rcases Nat.lt_or_ge i ops.size with h|h
  ·exact h
  ·rw [Array.getElem?_eq_none h] at ho;cases ho
 have hp:=S.pto i hlt
 unfold ahx at hp
 rw [ho] at hp
 simp only [Bool.and_eq_true,List.all_eq_true] at hp
 intro p hpc
 have h1:=hp.1 p (by simpa using hpc)
 rw [List.any_eq_true] at h1
 obtain ⟨e,he,h2⟩:=h1
 simp only [Bool.and_eq_true,Bool.or_eq_true] at h2
 have h3:wH listed e.on:=hall e (by simpa using he) h2.1
 rcases h2.2 with h4|h4
 ·rw [Nat.eq_of_beq_eq_true h4] at h3;exact h3
 ·exact arN e.on h3 p h4
theorem DSt.JJ (S:DSt P K ops pt ds all bf) (hsz:listed.size=ops.size) (hr:Region.ready .any ops listed=[]) : ∀ n i,i<n→i<ops.size→wH listed i
 | 0,i,h,_=>jb
 | n+1,i,h,hi=>by
  refine Classical.byContradiction fun hl=>?_
  have hp:=S.pto i hi
  unfold ahx at hp
  rw [Array.getElem?_eq_getElem hi] at hp
  simp only [Bool.and_eq_true,List.all_eq_true] at hp
  have:i∈Region.ready .any ops listed:=mem_ready.2 ⟨aaH jb hl,_,Array.getElem?_eq_getElem hi,fun e he hb=>by
   have h2:=hp.2 e (by simpa using he)
   rw [hb] at h2
   have h3:e.on<i:=by simpa using h2
   exact S.JJ hsz hr n e.on jb jb⟩
  rw [hr] at this
  cases this
theorem Lg.put (S:DSt P K ops pt ds all bf) (hl:Lg φ (wH listed) bZ bf all res a) {i:Nat} {d:Option Nat} {cv:Value} (hls:i<listed.size) (hin : ∀ r∈res,∃ y∈all,y.i=r.i∧y.o.dst=r.d)
  (huq : ∀ r∈res,∀ r'∈res,r.i=r'.i→r=r') (hr:(⟨i,d,v⟩:Rs)∈res) (hd : ∀ e,d=some e→e<a.tmps.size∧e∈ds) (hv:RV φ v cv):Lg φ (wH (listed.setIfInBounds i true)) bZ bf all res (a.put d cv):=by
 refine ⟨fun t u hu=>?_,fun r hrr hL e he=>?_,fun t ho=>?_⟩
 ·have h0:=hl.base t u hu
  cases d with
  | none=>exact h0
  | some d =>
   have hne:d≠t:=fun e=>by
    have:=S.ers d (hd d rfl).2
    rw [e,hu] at this
    cases this
   simp only [Act.put,Array.getD_eq_getD_getElem?,Array.getElem?_setIfInBounds_ne hne]
   simpa using h0
 ·by_cases ei:r.i=i
  ·have:=huq r hrr _ hr ei
   subst this
   simp only at he
   subst he
   have hlt:=(hd e rfl).1
   refine ⟨by rw [yP];exact hlt,?_⟩
   simp [Act.put,hlt,hv]
  ·have hL2:wH listed r.i:=((ji hls r.i).mp hL).resolve_left ei
   obtain ⟨h1,h2⟩:=hl.got r hrr hL2 e he
   refine ⟨by rw [yP];exact h1,?_⟩
   cases d with
   | none=>exact h2
   | some d =>
    have hne:d≠e:=fun e2=>by
     obtain ⟨y,hy,y1,y2⟩:=hin r hrr
     obtain ⟨z,hz,z1,z2⟩:=hin _ hr
     have:=JH S.apd y hy z hz e (by rw [y2,he]) (by rw [z2,e2])
     rw [this,z1] at y1
     exact ei y1.symm
    simp only [Act.put,Array.getD_eq_getD_getElem?,Array.getElem?_setIfInBounds_ne hne]
    simpa using h2
 ·have h0:=hl.old t fun y hy e hL=>ho y hy e ((ji hls y.i).mpr (.inr hL))
  cases d with
  | none=>exact h0
  | some d =>
   have hne:d≠t:=fun e=>by
    obtain ⟨z,hz,z1,z2⟩:=hin _ hr
    exact ho z hz (by rw [z2,← e]) ((ji hls z.i).mpr (.inl z1))
   simp only [Act.put,Array.getD_eq_getD_getElem?,Array.getElem?_setIfInBounds_ne hne]
   simpa using h0
theorem Lg.mono {L:Nat→Prop} (h : ∀ b p,φ b=some p→φ' b=some p) (hl:Lg φ L bZ bf all res a):Lg φ' L bZ bf all res a :=
 ⟨hl.base.mono h,fun r hr hL d hd=>⟨(hl.got r hr hL d hd).1,(hl.got r hr hL d hd).2.mono h⟩,fun t ho=>(hl.old t ho).mono h⟩
theorem Lg.sub {L:Nat→Prop} (hs : ∀ r∈res',r∈res) (hl:Lg φ L bZ bf all res a):Lg φ L bZ bf all res' a:=⟨hl.base,fun r hr=>hl.got r (hs r hr),hl.old⟩
theorem yS.done (S:DSt P K ops pt ds all bf) (h:yS N w0 P K ops pt all m φ0 bZ bf a0 rest σ res pd φ listed a w) {i:Nat} {d:Option Nat} {cv:Value} (hi:i<ops.size) (hr:(⟨i,d,v⟩:Rs)∈res)
  (hpre : ∀ p,(pt.getD i []).contains p=true→wH listed p) (hd : ∀ e,d=some e→e<K∧e∈ds) (hmono : ∀ b p,φ b=some p→φ' b=some p) (hrel:Rel N w0 φ' σ w') (hv:RV φ' v cv)
  (ahz:Names φ' (wH (listed.setIfInBounds i true)) σ pd) (hext:Ext m φ0 φ'):yS N w0 P K ops pt all m φ0 bZ bf a0 rest σ res pd φ' (listed.setIfInBounds i true) (a.put d cv) w':=by
 have hls:i<listed.size:=by rw [h.lsz];exact hi
 refine ⟨hrel,(h.lg.mono hmono).put S hls h.rin h.run hr (fun e he=>⟨by have:=(hd e he).1;have:=h.ksz;omega,(hd e he).2⟩) hv,h.pok,ahz,h.low,hext,h.mle,fun j hj p hp=>?_,fun j hj=>?_,fun y hy hl=>?_,by simp [h.lsz],by rw [yP];exact h.ksz,by rw [put_defers];exact h.dfr,h.rin,h.run,h.rre⟩
 ·rw [ji hls] at hj ⊢
  rcases hj with rfl|hj
  ·exact .inr (hpre p hp)
  ·exact .inr (h.clo j hj p hp)
 ·rcases h.cov j hj with h1|h1
  ·exact .inl ((ji hls j).mpr (.inr h1))
  ·exact .inr h1
 ·rcases (ji hls y.i).mp hl with e|e
  ·exact h.rre _ hr y hy e.symm
  ·exact h.unl y hy e
theorem yS.quiet (S:DSt P K ops pt ds all bf) {qs:List DO} (h:yS N w0 P K ops pt all m φ0 bZ bf a0 (qs ++ rest) σ res pd φ listed a w) (hap:nU (qs ++ rest)=true) (hsub : ∀ y∈qs ++ rest,y∈all)
  (hrun:rJ bZ bf qs σ res pd=some (σ',res',pd')):yS N w0 P K ops pt all m φ0 bZ bf a0 rest σ' res' pd' φ listed a w:=by
 obtain ⟨a1,a2,a3⟩:=oU hap
 obtain ⟨r1,r2,r3,r4,r5,r6,r7⟩:=NM (ds:=ds) (m:=m) (φ:=φ) (L:=wH listed) qs σ res pd σ' res' pd' hrun (fun x hx=>S.dok x (hsub x (by simp [hx]))) (fun x hx=>S.osk x (hsub x (by simp [hx]))) (fun x hx=>h.unl x (by simp [hx])) h.rel h.pok h.YM h.mle h.low
 refine ⟨r1,⟨h.lg.base,fun r hr hL=>?_,h.lg.old⟩,r2,r3,r7,h.ext,by have:=h.mle;omega,h.clo,fun i hi=>?_,fun y hy=>h.unl y (by simp [hy]),h.lsz,h.ksz,h.dfr,fun r hr=>?_,
  NP qs σ res pd σ' res' pd' hrun a1 (fun r hr y hy=>h.rre r hr y (by simp [hy])) h.run,fun r hr y hy=>?_⟩
 ·rcases (r5 r).mp hr with hr'|⟨x,hx,u,rfl,-⟩
  ·exact h.lg.got r hr' hL
  ·exact absurd hL (h.unl x (by simp [hx]))
 ·rcases h.cov i hi with h1|⟨p,hp,e⟩|⟨y,hy,e⟩
  ·exact .inl h1
  ·exact .inr (.inl ((r6 i).mpr (.inl ⟨p,hp,e⟩)))
  ·rcases List.mem_append.mp hy with hy|hy
   ·exact .inr (.inl ((r6 i).mpr (.inr ⟨y,hy,e⟩)))
   ·exact .inr (.inr ⟨y,hy,e⟩)
 ·rcases (r5 r).mp hr with hr'|⟨x,hx,u,rfl,-⟩
  ·exact h.rin r hr'
  ·exact ⟨x,hsub x (by simp [hx]),rfl,rfl⟩
 ·rcases (r5 r).mp hr with hr'|⟨x,hx,u,rfl,-⟩
  ·exact h.rre r hr' y (by simp [hy])
  ·exact a3 x hx y hy
def Stg (cl:Nat→List V→St→Option (V×St)) (pt:List (List Nat)) (bZ bf tmF:Tr V) (σF:St) (all:List DO) (σ:St) (res:List Rs) (pd:List iD):Dr→Prop
 | .fin _=>pd.all (again σ)=true∧Ey bf res=some tmF∧σ=σF
 | .act _ x r=>pd.all (again σ)=true∧(∃ tm v σ1,Jq bZ bf res x.us x.os=some tm∧stepG cl x.o tm σ=some (v,σ1) ∧
   yL cl pt bZ bf r σ1 (⟨x.i,x.o.dst,v⟩::res) (pd.filter fun p=>!((pt.getD x.i []).contains p.i))=some (tmF,σF))∧yQ x.o.op.kind=false∧(∀ y∈r.EJ,(pt.getD y.i []).contains x.i=true)∧yR pt r=true ∧
   nU (x::r.EJ)=true∧∀ y∈x::r.EJ,y∈all
def Dr.tail:Dr→List DO
 | .fin _=>[]
 | .act _ x r=>x::r.EJ
theorem FY (S:DSt P K ops pt ds all bf) {cl:Nat→List V→St→Option (V×St)} {tmF:Tr V} {σF:St} {D:Dr} (hst:yR pt D=true) (hap:nU D.EJ=true) (hsub : ∀ y∈D.EJ,y∈all)
  (h:yS N w0 P K ops pt all m φ0 bZ bf a0 D.EJ σ res pd φ listed a w) (hrun:yL cl pt bZ bf D σ res pd=some (tmF,σF)) :
  ∃ σ' res' pd',Stg cl pt bZ bf tmF σF all σ' res' pd' D∧yS N w0 P K ops pt all m φ0 bZ bf a0 D.tail σ' res' pd' φ listed a w:=by
 cases D with
 | fin qs =>
  simp only [yL] at hrun
  split at hrun
  ·next σ' res' pd' hq =>
   cases hb:pd'.all (again σ') with
   | false=>rw [hb] at hrun;cases hrun
   | true =>
    rw [hb] at hrun
    simp only [cond_true] at hrun
    split at hrun
    ·next tm hf =>
     cases hrun
     have hq2:=yS.quiet (rest:=[]) S (by rw [List.append_nil];exact h) (by rw [List.append_nil];exact hap) (by rw [List.append_nil];exact hsub) hq
     exact ⟨_,res',pd',⟨hb,hf,rfl⟩,hq2⟩
    ·cases hrun
  ·cases hrun
 | act qs x r =>
  simp only [yL] at hrun
  split at hrun
  ·next σ' res' pd' hq =>
   cases hb:pd'.all (again σ') with
   | false=>rw [hb] at hrun;cases hrun
   | true =>
    rw [hb] at hrun
    simp only [cond_true] at hrun
    split at hrun
    ·next tm Ht =>
     split at hrun
     ·next v σ1 hs =>
      have hq2:=yS.quiet (rest:=x::r.EJ) S h hap hsub hq
      simp only [yR,Bool.and_eq_true,List.all_eq_true,Bool.not_eq_true'] at hst
      obtain ⟨s1,s2,s3,s4⟩:=hst
      exact ⟨σ',res',pd',⟨hb,⟨tm,v,σ1,Ht,hs,hrun⟩,s2,s3,s4,(oU hap).2.1,fun y hy=>hsub y (List.mem_append.mpr (.inr hy))⟩,hq2⟩
     ·cases hrun
    ·cases hrun
  ·cases hrun
theorem yS.pend [WC:mW P] (S:DSt P K ops pt ds all bf) (h:yS N w0 P K ops pt all m φ0 bZ bf a0 rest σ res pd φ listed a w) (hag:pd.all (again σ)=true) {p:iD} (hp:p∈pd) {o:Oper} (ho:ops[p.i]?=some o)
  (hrd:p.i∈Region.ready .any ops listed) {Q:Exit→Act→World→Prop} {nx:Act→World→Prop}
  (hn : ∀ a' w' φ',yS N w0 P K ops pt all m φ0 bZ bf a0 rest σ res pd φ' (listed.setIfInBounds p.i true) a' w'→nx a' w'):wpOp P ops Q p.i nx a w:=by
 obtain ⟨⟨o',us,os,h1,h2,h3,h6,res2,h4,h5⟩,hres,hgt,hno,hq,hk,hnn⟩:=h.pok p hp
 rw [ho] at h1
 cases h1
 have hlt:p.i<ops.size:=by
  rcases Nat.lt_or_ge p.i ops.size with h|h
  ·exact h
  ·rw [Array.getElem?_eq_none h] at ho;cases ho
 have hpre:=S.pre h.clo hrd
 have hnl : ¬ wH listed p.i:=JI (mem_ready.1 hrd).1
 have hls:p.i<listed.size:=by rw [h.lsz];exact hlt
 have ht:RT φ p.tm a:=Tq (h.lg.sub h4) (fun u hu=>hpre u (h3 u hu)) (fun t ht y hy e hL=>hnl (h.clo y.i hL p.i (h6 t ht y hy e))) h5
 have h2':=h2
 unfold JD at h2'
 simp only [Bool.and_eq_true] at h2'
 obtain ⟨g1,g2,g3⟩:=h2'
 obtain ⟨d1,d2⟩:=Bg g2
 have hd : ∀ e,p.o.dst=some e→e<K∧e∈ds:=fun e he=>by
  refine ⟨d2 e (by rw [d1];exact he),?_⟩
  obtain ⟨y,hy,y1,y2⟩:=h.rin _ hres
  obtain ⟨_,_,_,_,y5,_⟩:=zY (S.dok y hy)
  exact y5 e (by rw [y2];exact he)
 have Bh:=(List.all_eq_true.mp hag) p hp
 have ahz:Names φ (wH (listed.setIfInBounds p.i true)) σ pd:=⟨h.YM.lt,fun q hq b hb hL=>h.YM.free q hq b hb (fun hl=>hL ((ji hls _).mpr (.inr hl))),h.YM.apart⟩
 have hw:=EH g1 ht hgt
 unfold wpOp
 simp only [ho]
 cases hg:p.gt with
 | false =>
  rw [hg] at hw
  rw [if_neg (by rw [hw];simp)]
  have:=h.done (cv:=undef) S hlt hres hpre hd (fun _ _ h=>h) h.rel (by rw [hno hg];rfl) ahz h.ext
  rw [← d1] at this
  exact hn _ _ _ this
 | true =>
  rw [hg] at hw
  rw [if_pos hw]
  refine .inl ?_
  unfold again at Bh
  rw [hg] at Bh
  simp only [cond_true] at Bh
  unfold Oper.wp
  cases hkk:p.o.op.kind with
  | q =>
   rw [hkk] at g3
   simp only at g3
   have hs:dB p.o.op p.tm σ=some p.v:=by
    rw [hkk] at Bh
    simp only at Bh
    cases hl:p.o.op.looks with
    | false=>exact hq hkk hl hg σ
    | true =>
     rw [hl] at Bh
     simp only [cond_true] at Bh
     split at Bh
     ·next u hu=>rw [hu,Wy Bh]
     ·cases Bh
   obtain ⟨cv,e1,e2⟩:=Jw h.rel g3 hs ht o rfl
   rw [e1]
   have:=h.done S hlt hres hpre hd (fun _ _ h=>h) h.rel e2 ahz h.ext
   rw [← d1] at this
   exact hn _ _ _ this
  | n =>
   rw [hkk] at g3
   simp only at g3
   obtain ⟨l,vf,b,e1,e2,e3⟩:=hnn hkk hg
   rw [hkk,e1,e2] at Bh
   simp only at Bh
   split at Bh
   ·next c hc =>
    have hcl:=Hq Bh
    subst hcl
    obtain ⟨cs,T,cv,f1,f2,f3⟩:=JA (w:=w) g3 e1 ht o rfl
    rw [f1]
    have hb:=h.YM.lt p hp b e2
    have hfree:=h.YM.free p hp b e2 hnl
    obtain ⟨q1,q2⟩:=h.rel.land (C:=0) (T:=T) hb hfree hc rfl f2
    have hmono : ∀ b' p',φ b' = some p'→Dp φ b (w.heap.size,0) b' = some p':=fun b' p' hb'=>by
     rw [q2 b' (fun e=>by rw [e,hfree] at hb';cases hb')];exact hb'
    have ao2:Names (Dp φ b (w.heap.size,0)) (wH (listed.setIfInBounds p.i true)) σ pd:=⟨h.YM.lt,fun q hq b' hb' hL=>by
     have hne:b'≠b:=fun e=>hL ((ji hls _).mpr (.inl (h.YM.apart q hq p hp b (by rw [← e];exact hb') e2)))
     rw [q2 b' hne]
     exact h.YM.free q hq b' hb' (fun hl=>hL ((ji hls _).mpr (.inr hl))),h.YM.apart⟩
    have hext:Ext m φ0 (Dp φ b (w.heap.size,0)):=fun b' hb'=>by
     have:=h.low p hp b e2
     rw [q2 b' jb]
     exact h.ext b' hb'
    have hv:RV (Dp φ b (w.heap.size,0)) p.v cv:=by rw [e3];exact f3 _ _ (gV _ _ _)
    have:=h.done S hlt hres hpre hd hmono q1 hv ao2 hext
    rw [← d1] at this
    exact hn _ _ _ this
   ·cases Bh
  | a=>rw [hkk] at hk;cases hk
  | c=>rw [hkk] at hk;cases hk
theorem aaI [WC:mW P] (S:DSt P K ops pt ds all bf) {cl:Nat→List V→St→Option (V×St)} (hcl:PL P cl) {tmF:Tr V} {σF:St} {Q:Exit→Act→World→Prop}
  (hQ : ∀ a' w' φ',a'.defers=a0.defers→K≤a'.tmps.size→Ext m φ0 φ'→Rel N w0 φ' σF w'→RT φ' tmF a'→m≤σF.ah→Q .normal a' w') :
  ∀ (f:Nat) (D:Dr) (σ:St) (res:List Rs) (pd:List iD) (φ:Ph) (listed:Array Bool) (a:Act) (w:World),cnt ops.size listed≤f→Stg cl pt bZ bf tmF σF all σ res pd D →
   yS N w0 P K ops pt all m φ0 bZ bf a0 D.tail σ res pd φ listed a w→wpAny P .any ops Q f listed a w:=by
 have finish : ∀ (D:Dr) (σ:St) (res:List Rs) (pd:List iD) (φ:Ph) (listed:Array Bool) (a:Act) (w:World),Stg cl pt bZ bf tmF σF all σ res pd D →
   yS N w0 P K ops pt all m φ0 bZ bf a0 D.tail σ res pd φ listed a w→(∀ i,i<ops.size→wH listed i)→Q .normal a w:=by
  intro D σ res pd φ listed a w hS h hall
  cases D with
  | fin qs =>
   obtain ⟨-,h2,rfl⟩:=hS
   refine hQ a w φ h.dfr h.ksz h.ext h.rel (NK h.lg (fun r hr=>?_) h2) h.mle
   obtain ⟨y,hy,y1,-⟩:=h.rin r hr
   obtain ⟨o,ho,-⟩:=zY (S.dok y hy)
   refine hall r.i ?_
   rw [← y1]
   rcases Nat.lt_or_ge y.i ops.size with h|h
   ·exact h
   ·rw [Array.getElem?_eq_none h] at ho;cases ho
  | act qs x r =>
   exfalso
   obtain ⟨-,-,-,-,-,-,h7⟩:=hS
   obtain ⟨o,ho,-⟩:=zY (S.dok x (h7 x kc))
   refine h.unl x (by simp [Dr.tail]) (hall x.i ?_)
   rcases Nat.lt_or_ge x.i ops.size with h|h
   ·exact h
   ·rw [Array.getElem?_eq_none h] at ho;cases ho
 intro f
 induction f with
 | zero =>
  intro D σ res pd φ listed a w hc hS h
  have hall:=ady (Nat.le_zero.mp hc)
  unfold wpAny
  refine ⟨?_,finish D σ res pd φ listed a w hS h hall⟩
  cases hr:Region.ready .any ops listed with
  | nil=>rfl
  | cons i l =>
   have hi:i∈Region.ready .any ops listed:=by rw [hr];simp
   obtain ⟨h1,o,ho,-⟩:=mem_ready.1 hi
   have hlt:i<ops.size:=by
    rcases Nat.lt_or_ge i ops.size with h|h
    ·exact h
    ·rw [Array.getElem?_eq_none h] at ho;cases ho
   exact absurd (hall i hlt) (JI h1)
 | succ f ih =>
  intro D σ res pd φ listed a w hc hS h
  unfold wpAny
  refine ⟨fun hr=>finish D σ res pd φ listed a w hS h (fun i hi=>S.JJ h.lsz hr (i+1) i jb hi),fun i hi=>?_⟩
  obtain ⟨h1,o,ho,-⟩:=mem_ready.1 hi
  have hnl:=JI h1
  have hlt:i<ops.size:=by
   rcases Nat.lt_or_ge i ops.size with h|h
   ·exact h
   ·rw [Array.getElem?_eq_none h] at ho;cases ho
  have hc' : cnt ops.size (listed.setIfInBounds i true)≤f:=by
   have:=ahy h.lsz hlt hnl
   omega
  have hpre:=S.pre h.clo hi
  rcases h.cov i hlt with h2|⟨p,hp,rfl⟩|⟨y,hy,rfl⟩
  ·exact absurd h2 hnl
  ·have hag:pd.all (again σ)=true:=by cases D <;> exact hS.1
   exact h.pend S hag hp ho hi fun a' w' φ' h'=>ih D σ res pd φ' _ a' w' hc' hS h'
  ·cases D with
   | fin qs=>simp [Dr.tail] at hy
   | act qs x r =>
    simp only [Dr.tail] at hy
    obtain ⟨hag,⟨tm,v,σ1,Ht,hs,hrun⟩,hqk,hafter,hst,hap,hsub⟩:=hS
    rcases List.mem_cons.mp hy with rfl|hy
    ·obtain ⟨o',ho',himp,hus,hds,hdst,hdK⟩:=zY (S.dok y (hsub y kc))
     rw [ho] at ho'
     cases ho'
     have ht:RT φ tm a:=Tq h.lg (fun u hu=>hpre u (hus u hu)) (fun t ht z hz e hL=>hnl (h.clo z.i hL y.i (S.osk y (hsub y kc) t ht z hz e))) Ht
     refine JF hcl ho himp h.rel ht hs fun cv φ1 w1 e1 r1 v1 n1=>?_
     have hls:y.i<listed.size:=by rw [h.lsz];exact hlt
     have hmono : ∀ b p,φ b=some p→φ1 b=some p:=fun b p hb=>e1.some h.rel.old hb
     have ao3 : ∀ q∈(⟨y.i,y.o.dst,v⟩:Rs)::res,∃ z∈all,z.i=q.i∧z.o.dst=q.d:=fun q hq=>by
      rcases List.mem_cons.mp hq with rfl|hq
      ·exact ⟨y,hsub y kc,rfl,rfl⟩
      ·exact h.rin q hq
     have hrun' : ∀ q∈(⟨y.i,y.o.dst,v⟩:Rs)::res,∀ q'∈(⟨y.i,y.o.dst,v⟩:Rs)::res,q.i=q'.i→q=q':=fun q hq q' hq' e=>by
      rcases List.mem_cons.mp hq with rfl|hq <;> rcases List.mem_cons.mp hq' with rfl|hq'
      ·rfl
      ·exact absurd e.symm (h.rre q' hq' y (by simp [Dr.tail]))
      ·exact absurd e (h.rre q hq y (by simp [Dr.tail]))
      ·exact h.run q hq q' hq' e
     have hyr : ∀ z∈r.EJ,y.i≠z.i:=fun z hz=>(oU (l:=[y]) (r:=r.EJ) hap).2.2 y kc z hz
     have arO:Lg φ1 (wH listed) bZ bf all ((⟨y.i,y.o.dst,v⟩:Rs)::res) a:=⟨(h.lg.mono hmono).base,fun q hq hL d hd=>by
      rcases List.mem_cons.mp hq with rfl|hq
      ·exact absurd hL hnl
      ·exact (h.lg.mono hmono).got q hq hL d hd,(h.lg.mono hmono).old⟩
     have hlg:Lg φ1 (wH (listed.setIfInBounds y.i true)) bZ bf all ((⟨y.i,y.o.dst,v⟩:Rs)::res) (a.put o.dst cv):=by
      rw [hdst]
      exact arO.put S hls ao3 hrun' kc (fun e he=>⟨Nat.lt_of_lt_of_le (hdK e (by rw [hdst];exact he)) h.ksz,hds e he⟩) v1
     have hnew:yS N w0 P K ops pt all m φ0 bZ bf a0 r.EJ σ1 ((⟨y.i,y.o.dst,v⟩:Rs)::res) (pd.filter fun p=>!((pt.getD y.i []).contains p.i)) φ1 (listed.setIfInBounds y.i true) (a.put o.dst cv) w1:=by
      refine ⟨r1,hlg,fun p hp=>?_,⟨fun p hp b hb=>?_,fun p hp b hb hL=>?_,fun p hp p' hp'=>h.YM.apart p (List.mem_filter.mp hp).1 p' (List.mem_filter.mp hp').1⟩,fun p hp=>h.low p (List.mem_filter.mp hp).1,h.ext.trans e1 h.mle,Nat.le_trans h.mle n1,
       fun j hj p hp=>?_,fun j hj=>?_,fun z hz hl=>?_,by simp [h.lsz],by rw [yP];exact h.ksz,by rw [put_defers];exact h.dfr,ao3,hrun',fun q hq z hz=>?_⟩
      ·obtain ⟨⟨o',us',os',q1,q2,q3,q6,res2,q4,q5⟩,p2,p3,p4,p5,p6,p7⟩:=h.pok p (List.mem_filter.mp hp).1
       exact ⟨⟨o',us',os',q1,q2,q3,q6,res2,fun q hq=>by simp [q4 q hq],q5⟩,by simp [p2],p3,p4,p5,p6,p7⟩
      ·exact Nat.lt_of_lt_of_le (h.YM.lt p (List.mem_filter.mp hp).1 b hb) n1
      ·rw [e1 b (h.YM.lt p (List.mem_filter.mp hp).1 b hb)]
       exact h.YM.free p (List.mem_filter.mp hp).1 b hb (fun hl=>hL ((ji hls _).mpr (.inr hl)))
      ·rw [ji hls] at hj ⊢
       rcases hj with rfl|hj
       ·exact .inr (hpre p hp)
       ·exact .inr (h.clo j hj p hp)
      ·rcases h.cov j hj with h3|⟨p,hp,e⟩|⟨z,hz,e⟩
       ·exact .inl ((ji hls j).mpr (.inr h3))
       ·by_cases hin:(pt.getD y.i []).contains p.i=true
        ·exact .inl ((ji hls j).mpr (.inr (by rw [← e];exact hpre p.i hin)))
        ·exact .inr (.inl ⟨p,List.mem_filter.mpr ⟨hp,by simpa using hin⟩,e⟩)
       ·simp only [Dr.tail] at hz
        rcases List.mem_cons.mp hz with rfl|hz
        ·exact .inl ((ji hls j).mpr (.inl e.symm))
        ·exact .inr (.inr ⟨z,hz,e⟩)
      ·rcases (ji hls z.i).mp hl with e|e
       ·exact hyr z hz e.symm
       ·exact h.unl z (by simp [Dr.tail,hz]) e
      ·rcases List.mem_cons.mp hq with rfl|hq
       ·exact hyr z hz
       ·exact h.rre q hq z (by simp [Dr.tail,hz])
     obtain ⟨σ2,res2,pd2,hS2,hI2⟩:=FY S (D:=r) hst (oU (l:=[y]) (r:=r.EJ) hap).2.1 (fun z hz=>hsub z (by simp [hz])) hnew hrun
     exact ih r σ2 res2 pd2 φ1 _ _ w1 hc' hS2 hI2
    ·exact absurd (hpre x.i (hafter y hy)) (h.unl x (by simp [Dr.tail]))
theorem WJ [WC:mW P] {cl:Nat→List V→St→Option (V×St)} (hcl:PL P cl) (hm:P.follows .mixedOrders=true) {id:Nat} {Q:Exit→Act→World→Prop} {D:Dr} (hi:adx P K ops D pt ds=true)
  (hR:Rel N w0 φ σ w) (ht:RT φ tm a) (hK:K≤a.tmps.size) (he:xC tm ds=some bf) (h:yL cl pt tm bf D σ [] []=some (tm',σ')) (hQ : ∀ a' w',After N w0 φ σ σ' tm' a K a' w'→Q .normal a' w') :
  (Code.region id ops true).wp P Q a w:=by
 unfold adx at hi
 simp only [Bool.and_eq_true,List.all_eq_true] at hi
 obtain ⟨⟨i1,i5⟩,i2,i3,i4⟩:=hi
 obtain ⟨e1,e2⟩:=FX he
 have S:DSt P K ops pt ds D.EJ bf:=⟨fun x hx t ht y hy e=>by
   have:=i5 x hx t ht y hy
   rw [e] at this
   simpa using this,i1,i2,fun i hi=>(i4 i (List.mem_range.mpr hi)).1,e1⟩
 have nol : ∀ i,¬ wH (Array.replicate ops.size false) i:=fun i=>by
  unfold wH
  simp only [Array.getD_eq_getD_getElem?,Array.getElem?_replicate]
  split <;> simp
 have h0:yS N w0 P K ops pt D.EJ σ.ah φ tm bf a D.EJ σ [] [] φ (Array.replicate ops.size false) a { w with drawn:=w.drawn+1 }:=by
  refine ⟨hR.drawn,⟨fun t u hu=>?_,fun r hr=>(by cases hr),fun t _=>RV.tm ht t⟩,fun p hp=>(by cases hp),⟨fun p hp=>(by cases hp),fun p hp=>(by cases hp),fun p hp=>(by cases hp)⟩,fun p hp=>(by cases hp),Ext.refl _ _,jp,
   fun i hi=>absurd hi (nol i),fun i hi=>?_,fun y _=>nol y.i,by simp,hK,rfl,fun r hr=>(by cases hr),fun r hr=>(by cases hr),fun r hr=>(by cases hr)⟩
  ·rcases e2 t with h9|h9
   ·rw [h9] at hu;cases hu
   ·rw [h9] at hu;exact ht t u hu
  ·have:=(i4 i (List.mem_range.mpr hi)).2
   rw [List.any_eq_true] at this
   obtain ⟨x,hx,ex⟩:=this
   exact .inr (.inr ⟨x,hx,Nat.eq_of_beq_eq_true ex⟩)
 obtain ⟨σ2,res2,pd2,hS2,hI2⟩:=FY S i3 i2 (fun y hy=>hy) h0 h
 refine wp_region_any hm (aaI S hcl (fun a' w' φ' q1 q2 q3 q4 q5 q6=>hQ a' w' ⟨q1,q2,φ',q3,q4,q5,q6⟩) ops.size D σ2 res2 pd2 φ _ a _ ?_ hS2 hI2)
 unfold cnt
 refine Nat.le_trans (List.length_filter_le _ _) ?_
 simp
end
end Go.Proofs.Xe
