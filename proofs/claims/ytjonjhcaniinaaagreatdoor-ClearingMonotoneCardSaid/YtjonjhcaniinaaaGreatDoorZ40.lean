/- ClearingMonotone: for every input the law returns true. Conditions: those of the given row alone. -/
import Derived.Test.YtjonjhcaniinaaaGreatDoorZ39
set_option linter.unusedSimpArgs false
set_option linter.unusedVariables false
set_option maxHeartbeats 8000000
namespace Go.Proofs.Xe
open Go.RowKit Go.Proofs Go.Proofs.Ins
def Z8 (s k:Nat) (x y:B):Bool:=match x,y with
 | .int .i64 a,.int .i64 b=>decide (a=b)
 | .bool a,.bool b=>bif a then b else !b
 | .str a,.str b=>Nat.beq a.size 0 && Nat.beq b.size 0
 | .nat a,.nat b=>Nat.beq a b
 | .aW,.aW=>true
 | .sl b o n _,.sl b' o' n' _=>Nat.beq b' (b+s) && (Nat.blt b k && (Nat.beq o o' && Nat.beq n n'))
 | _,_=>false
theorem XL {a:ByteArray} (h:a.size=0):a=⟨#[]⟩:=by
 obtain ⟨l⟩:=a
 congr
 exact Array.eq_empty_of_size_eq_zero h
section
variable {φ φ0:Ph} {s k:Nat}
theorem XM {x y:B} {v:Value} (h:Z8 s k x y=true) (hφ : ∀ b,b<k→φ0 b=φ (b+s)) (hv:RB φ y v):RB φ0 (frB x) v∧y.kn=true:=by
 unfold Z8 at h
 split at h
 ·next a b=>rw [of_decide_eq_true h];exact ⟨hv,rfl⟩
 ·next a b =>
  have e:a=b:=by cases a <;> cases b <;> first|rfl|cases h
  rw [e];exact ⟨hv,rfl⟩
 ·next a b =>
  rw [Bool.and_eq_true] at h
  rw [XL (Nat.eq_of_beq_eq_true h.1)]
  rw [XL (Nat.eq_of_beq_eq_true h.2)] at hv
  exact ⟨hv,rfl⟩
 ·next a b=>rw [Nat.eq_of_beq_eq_true h];exact ⟨hv,rfl⟩
 ·exact ⟨hv,rfl⟩
 ·next b o n c b' o' n' c' =>
  simp only [Bool.and_eq_true] at h
  obtain ⟨h1,h2,h3,h4⟩:=h
  have e1:=Nat.eq_of_beq_eq_true h1
  have e3:=Nat.eq_of_beq_eq_true h3
  have e4:=Nat.eq_of_beq_eq_true h4
  have h2:b<k:=by simpa [Nat.blt_eq] using h2
  subst e1 e3 e4
  refine ⟨?_,rfl⟩
  rcases hv with ⟨p,K,hp,e,a1,a2,-⟩|⟨h0,-,a,K,e,a1⟩
  ·exact .inl ⟨p,K,by rw [hφ b h2];exact hp,e,a1,a2,trivial⟩
  ·subst h0
   exact .inr ⟨rfl,rfl,a,K,e,a1⟩
 ·cases h
theorem ahg {x y:B} (h:Z8 s k x y=true):y.kn=true:=by
 unfold Z8 at h
 split at h <;> first|rfl|cases h
def lN (s k:Nat):List B→List B→Bool
 | [],[]=>true
 | x::l,y::r=>Z8 s k x y && lN s k l r
 | _,_=>false
theorem RH : ∀ {l r:List B} {j:Nat} {x:B},lN s k l r=true→l[j]?=some x→∃ y,r[j]?=some y∧Z8 s k x y=true
 | x::l,y::r,0,_,h,hx=>by
  cases hx
  unfold lN at h
  rw [Bool.and_eq_true] at h
  exact ⟨y,rfl,h.1⟩
 | x::l,y::r,j+1,z,h,hx=>by
  unfold lN at h
  rw [Bool.and_eq_true] at h
  exact RH (l:=l) (r:=r) h.2 (by simpa using hx)
 | [],_,_,_,_,hx=>by simp at hx
 | _::_,[],_,_,h,_=>by cases h
theorem XO (hφ : ∀ b,b<k→φ0 b=φ (b+s)) : ∀ {l r:List B} {vs:List Value},lN s k l r=true→jJ φ r vs→jJ φ0 (l.map frB) vs
 | [],[],[],_,_=>trivial
 | [],[],_::_,_,hv=>hv.elim
 | x::l,y::r,v::vs,h,hv=>by
  unfold lN at h
  rw [Bool.and_eq_true] at h
  exact ⟨(XM h.1 hφ hv.1).1,XO hφ h.2 hv.2⟩
 | _::_,_::_,[],_,hv=>hv.elim
 | [],_::_,_,h,_=>by cases h
 | _::_,[],_,h,_=>by cases h
def anM (s k:Nat) (x y:Option Bk):Bool:=match x,y with
 | none,_=>true
 | some a,some b=>b.rd && lN s k a.cells b.cells
 | some _,none=>false
noncomputable def kN (s:Nat) (σ1 σ:St):Nat→Bool
 | 0=>true
 | n+1=>anM s σ1.ah (σ1.h.get n) (σ.h.get (n+s)) && kN s σ1 σ n
theorem XP {σ1 σ:St} {b:Nat} : ∀ {n:Nat},kN s σ1 σ n=true→b<n→anM s σ1.ah (σ1.h.get b) (σ.h.get (b+s))=true
 | n+1,h,hb=>by
  unfold kN at h
  rw [Bool.and_eq_true] at h
  by_cases e:b=n
  ·rw [e];exact h.1
  ·exact XP h.2 (by omega)
theorem Fq (σ:St) (b:Nat) : ∀ n,(frT σ n).get b=if b<n then (σ.h.get b).map ahe else none
 | 0=>by rw [if_neg (by omega)];exact Tr.Aw b
 | n+1=>by
  unfold frT
  cases hn:σ.h.get n with
  | none =>
   show (frT σ n).get b=_
   rw [Fq σ b n]
   by_cases e:b=n
   ·subst e;rw [if_neg (by omega),if_pos (by omega),hn];rfl
   ·by_cases hlt:b<n
    ·rw [if_pos hlt,if_pos (by omega)]
    ·rw [if_neg hlt,if_neg (by omega)]
  | some k =>
   show ((frT σ n).set n (some (ahe k))).get b=_
   rw [Tr.jZ,Fq σ b n]
   by_cases e:b=n
   ·subst e;rw [if_pos rfl,if_pos (by omega),hn];rfl
   ·rw [if_neg e]
    by_cases hlt:b<n
    ·rw [if_pos hlt,if_pos (by omega)]
    ·rw [if_neg hlt,if_neg (by omega)]
theorem Rel.frz {N:Nat} {w0 w:World} {σ σ1:St} (hR:Rel N w0 φ σ w) (h:kN s σ1 σ σ1.ah=true):Rel w.heap.size w (fun b=>if b<σ1.ah then φ (b+s) else none) (frS σ1) w:=by
 have lo : ∀ b p,(if b<σ1.ah then φ (b+s) else none)=some p→b<σ1.ah∧φ (b+s)=some p:=fun b p hp=>by
  split at hp
  ·next hlt=>exact ⟨hlt,hp⟩
  ·cases hp
 have hg : ∀ b k,(frS σ1).h.get b=some k→∃ k0,σ1.h.get b=some k0∧k=ahe k0:=fun b k hk=>by
  have hk:(frT σ1 σ1.ah).get b=some k:=hk
  rw [Fq] at hk
  split at hk
  ·obtain ⟨k0,h1,h2⟩:=Option.map_eq_some_iff.mp hk
   exact ⟨k0,h1,h2.symm⟩
  ·cases hk
 refine ⟨Nat.le_refl _,Below.refl _ _,fun b b' p p' h1 h2 e hN _ _=>?_,fun b p hp=>hR.lo _ _ (lo b p hp).2,fun b k p hk _ _=>?_,fun b k p hk hp=>?_,fun b hb=>⟨if_neg (by have hb:σ1.ah≤b:=hb;omega),?_⟩⟩
 ·have:=hR.lo _ _ (lo b p h1).2
  omega
 ·obtain ⟨k0,-,rfl⟩:=hg b k hk
  exact ⟨rfl,rfl⟩
 ·obtain ⟨k0,h0,rfl⟩:=hg b k hk
  obtain ⟨hlt,hp⟩:=lo b p hp
  refine .inr (.inr ⟨rfl,rfl,fun j x hj hx=>?_⟩)
  have hc:=XP h hlt
  rw [h0] at hc
  cases hs:σ.h.get (b+s) with
  | none=>rw [hs] at hc;cases hc
  | some k2 =>
   rw [hs] at hc
   have hc:(k2.rd && lN s σ1.ah k0.cells k2.cells)=true:=hc
   rw [Bool.and_eq_true] at hc
   have hj:(k0.cells.map frB)[j]?=some x:=hj
   rw [List.getElem?_map] at hj
   obtain ⟨x0,hx0,rfl⟩:=Option.map_eq_some_iff.mp hj
   obtain ⟨y,hy,hxy⟩:=RH hc.2 hx0
   have hyk:=ahg hxy
   obtain ⟨v,h1,h2⟩:=hR.read hs hc.1 hp hy hyk
   exact ⟨v,h1,(XM hxy (fun b hb=>if_pos hb) h2).1⟩
 ·have hb:σ1.ah≤b:=hb
  show (frT σ1 σ1.ah).get b=none
  rw [Fq,if_neg (by omega)]
end
/-! ### The answers -/
def monC (a b:Nat):List B:=[.bool false,.nat a,.nat 0,.bool false,.nat b,.nat 0]
noncomputable def ans (M:List B) (σ:St):Option (V×St):=match σ.new ⟨M,some (0,1)⟩ with
 | some (b,σ')=>fN (b+1) fun b1=>fN (b+2) fun b2=>fN (b+3) fun b3=>fN (b+4) fun b4=>fN (b+5) fun b5=>fN (b+6) fun b6=>fN (b+7) fun b7=>fN (b+8) fun b8 =>
  some (.bZ (.agg [.sl b 0 2 .any,.sl b1 0 2 .any,.sl b2 0 2 .any,.sl b3 0 2 .any,.sl b4 0 2 .any,.sl b5 0 2 .any,.sl b6 0 2 .any,.sl b7 0 2 .any]) (.bZ (.c (.int .i64 (.ofNat 0))) .tnil),⟨σ'.h,b8⟩)
 | none=>none
noncomputable def aef (o:Option (V×St)) (M:List B) (args:List V) (σ:St):Option (V×St):=match o,args with
 | some (.agg l,σ1),[.agg r]=>fN (σ.ah - σ1.ah) fun s=>bif lN s σ1.ah l r && kN s σ1 σ σ1.ah then ans M σ else none
 | _,_=>none
noncomputable def Z9 (x y:Nat) (o:Option (V×St)):Bool:=match o with
 | some (.bZ (.agg [.sl b 0 2 _,.sl _ 0 2 _,.sl _ 0 2 _,.sl _ 0 2 _,.sl _ 0 2 _,.sl _ 0 2 _,.sl _ 0 2 _,.sl _ 0 2 _]) (.bZ (.c (.int .i64 (.ofNat 0))) .tnil),σ)=>(match σ.h.get b with
  | some ⟨[.bool false,.nat a,.nat 0,.bool false,.nat c,.nat 0],some (3,_)⟩=>Nat.beq a x && Nat.beq c y
  | _=>false)
 | _=>false
theorem aac {x y:Nat} {o:Option (V×St)} (h:Z9 x y o=true) : ∃ b c b1 c1 b2 c2 b3 c3 b4 c4 b5 c5 b6 c6 b7 c7 σ t,o=some (.bZ (.agg [.sl b 0 2 c,.sl b1 0 2 c1,.sl b2 0 2 c2,.sl b3 0 2 c3,.sl b4 0 2 c4,.sl b5 0 2 c5,.sl b6 0 2 c6,.sl b7 0 2 c7]) (.bZ (.c (.int .i64 (.ofNat 0))) .tnil),σ)∧σ.h.get b=some ⟨monC x y,some (3,t)⟩:=by
 unfold Z9 at h
 split at h
 ·next b c c1 b1 c2 b2 c3 b3 c4 b4 c5 b5 c6 b6 c7 b7 σ =>
  split at h
  ·next a d t hs =>
   rw [Bool.and_eq_true] at h
   rw [Nat.eq_of_beq_eq_true h.1,Nat.eq_of_beq_eq_true h.2] at hs
   exact ⟨_,_,_,_,_,_,_,_,_,_,_,_,_,_,_,_,_,_,rfl,hs⟩
  ·cases h
 ·cases h
theorem alb {φ:Ph} {b:Nat} {c:Cap} {v:Value} (h:RB φ (.sl b 0 2 c) v) : ∃ p,φ b=some p∧∀ φ' b',φ' b' = some p→RB φ' (.sl b' 0 2 .any) v:=by
 rcases h with ⟨p,K,hp,e,h1,h2,-⟩|⟨h,-⟩
 ·exact ⟨p,hp,fun φ' b' h'=>.inl ⟨p,K,h',e,h1,h2,trivial⟩⟩
 ·cases h
theorem alc {M:List B} {σ:St} : ans M σ=some (.bZ (.agg [.sl σ.ah 0 2 .any,.sl (σ.ah+1) 0 2 .any,.sl (σ.ah+2) 0 2 .any,.sl (σ.ah+3) 0 2 .any,.sl (σ.ah+4) 0 2 .any,.sl (σ.ah+5) 0 2 .any,.sl (σ.ah+6) 0 2 .any,.sl (σ.ah+7) 0 2 .any]) (.bZ (.c (.int .i64 (.ofNat 0))) .tnil),⟨σ.h.set σ.ah (some ⟨M,some (0,1)⟩),σ.ah+8⟩):=by
 unfold ans St.new Tr.put
 simp only [iJ]
def newP (φ φ2:Ph) (n:Nat) (bs:List Nat):Ph:=fun b=>if b<n then φ b else match bs[b - n]? with|some c=>φ2 c|none=>none
theorem OA {f:Nat} (hf:okF Tryz.prog f) {o:Option (V×St)} {x y:Nat} (hr:Z9 x y (ahf f o)=true) {args:List V} {σ σ' : St} {v:V} (h:aef o (monC x y) args σ=some (v,σ')):okF Tryz.prog f∧∀ (N:Nat) (w0:World) (φ:Ph) (w:World) (aF:Array Value),Rel N w0 φ σ w→sV φ args aF.toList →
  Calls Tryz.prog f aF w fun e w'=>∃ cv,e = .returned cv∧∃ φ',Ext σ.ah φ φ'∧Rel N w0 φ' σ' w'∧RV φ' v cv∧σ.ah≤σ'.ah:=by
 refine ⟨hf,fun N w0 φ w aF hR hargs=>?_⟩
 unfold aef at h
 split at h
 rotate_left
 ·cases h
 next l σ1 r =>
 rw [iJ] at h
 cases hc:(lN (σ.ah - σ1.ah) σ1.ah l r && kN (σ.ah - σ1.ah) σ1 σ σ1.ah) with
 | false=>rw [hc] at h;cases h
 | true =>
  rw [hc,cond_true,alc] at h
  rw [Bool.and_eq_true] at hc
  generalize σ.ah - σ1.ah=s at hc
  obtain ⟨b,c,b1,c1,b2,c2,b3,c3,b4,c4,b5,c5,b6,c6,b7,c7,σ2,t,e2,hm⟩:=aac hr
  have e2:fQ EK 2000 f [.agg (l.map frB)] (frS σ1)=_:=e2
  have hR1:=hR.frz hc.2
  cases h
  obtain ⟨la⟩:=aF
  match la,hargs with
  | [u],hargs =>
  obtain ⟨⟨ra,rfl,hra⟩,-⟩:=hargs
  refine (Dh anL (by kernel_rfl) e2 hR1 (aF:=#[.agg ra]) ⟨⟨ra,rfl,XO (fun b hb=>if_pos hb) hc.1 hra⟩,trivial⟩).mono fun e w' he=>?_
  obtain ⟨cv,rfl,φ2,-,hR2,hv,-⟩:=he
  refine ⟨cv,rfl,newP φ φ2 σ.ah [b,b1,b2,b3,b4,b5,b6,b7],fun b hb=>if_pos hb,?_,?_,Nat.le_add_right _ _⟩
  ·have hR3:=hR.below hR2.bel
   have hE:Ext σ.ah φ (newP φ φ2 σ.ah [b,b1,b2,b3,b4,b5,b6,b7]):=fun b hb=>if_pos hb
   have hN0:newP φ φ2 σ.ah [b,b1,b2,b3,b4,b5,b6,b7] σ.ah=φ2 b:=by
    unfold newP
    rw [if_neg (by omega),Nat.sub_self];rfl
   have hnew : ∀ p,newP φ φ2 σ.ah [b,b1,b2,b3,b4,b5,b6,b7] σ.ah=some p→w.heap.size≤p.1:=fun p hp=>hR2.hi hm (by rw [← hN0];exact hp) (.inl rfl)
   have hlo : ∀ i p,newP φ φ2 σ.ah [b,b1,b2,b3,b4,b5,b6,b7] i=some p→p.1<w'.heap.size:=fun i p hp=>by
    unfold newP at hp
    split at hp
    ·exact hR3.lo _ _ hp
    ·split at hp
     ·exact hR2.lo _ _ hp
     ·cases hp
   have hsg : ∀ i,i≠σ.ah→(σ.h.set σ.ah (some ⟨monC x y,some (0,1)⟩)).get i=σ.h.get i:=fun i hi=>by rw [Tr.jZ,if_neg hi]
   have hs0:(σ.h.set σ.ah (some (⟨monC x y,some (0,1)⟩:Bk))).get σ.ah=some ⟨monC x y,some (0,1)⟩:=by rw [Tr.jZ,if_pos rfl]
   have hlt : ∀ i,(σ.h.get i).isSome=true→i<σ.ah:=fun i hi=>by
    rcases Nat.lt_or_ge i σ.ah with h|h
    ·exact h
    ·rw [(hR.ah i h).2] at hi;cases hi
   have hold : ∀ i p,i<σ.ah→newP φ φ2 σ.ah [b,b1,b2,b3,b4,b5,b6,b7] i=some p→φ i=some p:=fun i p hi hp=>by rw [← hE i hi];exact hp
   refine ⟨hR3.n0,hR3.bel,fun i j p p' h1 h2 e hN i1 i2=>?_,hlo,fun i k p hk hp hN=>?_,fun i k p hk hp=>?_,fun i hi=>?_⟩
   ·by_cases e1:i=σ.ah
    ·by_cases e2:j=σ.ah
     ·rw [e1,e2]
     ·rw [hsg j e2] at i2
      have:=hR.lo _ _ (hold j p' (hlt j i2) h2)
      rw [e1] at h1
      have:=hnew p h1
      omega
    ·rw [hsg i e1] at i1
     by_cases e2:j=σ.ah
     ·have:=hR.lo _ _ (hold i p (hlt i i1) h1)
      rw [e2] at h2
      have:=hnew p' h2
      omega
     ·rw [hsg j e2] at i2
      exact hR.inj i j p p' (hold i p (hlt i i1) h1) (hold j p' (hlt j i2) h2) e hN i1 i2
   ·by_cases e1:i=σ.ah
    ·rw [e1,hs0] at hk
     cases hk
     exact ⟨rfl,rfl⟩
    ·rw [hsg i e1] at hk
     exact hR.fz i k p hk (hold i p (hlt i (by rw [hk];rfl)) hp) hN
   ·by_cases e1:i=σ.ah
    ·rw [e1,hs0] at hk
     cases hk
     rw [e1,hN0] at hp
     refine .inr (.inr ⟨rfl,rfl,fun j z hz hzk=>?_⟩)
     obtain ⟨v,h1,h2⟩:=hR2.read hm rfl hp hz hzk
     refine ⟨v,h1,?_⟩
     have hz:(monC x y)[j]?=some z:=hz
     have hmem:=List.mem_of_getElem? hz
     unfold monC at hmem
     simp only [List.mem_cons,List.not_mem_nil,or_false] at hmem
     rcases hmem with rfl|rfl|rfl|rfl|rfl|rfl <;> exact h2
    ·rw [hsg i e1] at hk
     exact (hR3.blk i k p hk (hold i p (hlt i (by rw [hk];rfl)) hp)).ext hE hR.old
   ·have hi:σ.ah+8≤i:=hi
    refine ⟨?_,?_⟩
    ·unfold newP
     rw [if_neg (by omega),List.getElem?_eq_none (by simp only [List.length_cons,List.length_nil];omega)]
    ·show (σ.h.set σ.ah (some ⟨monC x y,some (0,1)⟩)).get i=none
     rw [hsg i (by omega)]
     exact (hR.ah i (by omega)).2
  ·obtain ⟨a1,tl,ea,⟨r,rfl,hr8⟩,hrest⟩:=hv
   refine ⟨_,tl,ea,⟨r,rfl,?_⟩,hrest⟩
   obtain ⟨lr⟩:=r
   match lr,hr8 with
   | [d0,d1,d2,d3,d4,d5,d6,d7],⟨k0,k1,k2,k3,k4,k5,k6,k7,_⟩ =>
    have hn : ∀ (i:Nat) {bi:Nat},[b,b1,b2,b3,b4,b5,b6,b7][i]?=some bi→newP φ φ2 σ.ah [b,b1,b2,b3,b4,b5,b6,b7] (σ.ah+i)=φ2 bi:=fun i bi hb=>by
     unfold newP
     rw [if_neg (by omega),Nat.add_sub_cancel_left,hb]
    have key : ∀ (i:Nat) {bi:Nat} {ci:Cap} {d:Value},[b,b1,b2,b3,b4,b5,b6,b7][i]?=some bi→RB φ2 (.sl bi 0 2 ci) d→RB (newP φ φ2 σ.ah [b,b1,b2,b3,b4,b5,b6,b7]) (.sl (σ.ah+i) 0 2 .any) d:=fun i bi ci d hb hd=>by
     obtain ⟨p,hp,hq⟩:=alb hd
     exact hq _ _ (by rw [hn i hb];exact hp)
    exact ⟨key 0 rfl k0,key 1 rfl k1,key 2 rfl k2,key 3 rfl k3,key 4 rfl k4,key 5 rfl k5,key 6 rfl k6,key 7 rfl k7,trivial⟩
theorem anN:Z9 10 10 (ahf 8 (Z7 0 false))=true:=by kernel_rfl
theorem anO:Z9 0 0 (ahf 9 (Z7 0 false))=true:=by kernel_rfl
theorem anP:Z9 6 3 (ahf 8 (Z7 3 true))=true:=by kernel_rfl
noncomputable section
def anQ (f:Nat) (args:List V) (σ:St):Option (V×St) :=
 if f=8 then (match aef (Z7 0 false) (monC 10 10) args σ with|some r=>some r|none=>aef (Z7 3 true) (monC 6 3) args σ)
 else if f=9 then aef (Z7 0 false) (monC 0 0) args σ
 else ahb f args σ
def EY:Env:=⟨ahd,anQ⟩
end
theorem anR:KF Tryz.prog EY:=by
 refine ⟨fun f F h=>?_,fun f args σ v σ' h=>?_⟩
 ·unfold EY at h
  dsimp only at h
  exact XK f F h
 unfold EY at h
 dsimp only at h
 unfold anQ at h
 split at h
 ·next e =>
  subst e
  have hf:okF Tryz.prog 8:=dJ (by kernel_rfl)
  split at h
  ·next r hr=>cases h;exact OA hf anN hr
  ·exact OA hf anP h
 ·split at h
  ·next e =>
   subst e
   exact OA (dJ (by kernel_rfl)) anO h
  ·exact XJ f args σ v σ' h
theorem aad:isT (fQ EY 2000 13 [] ⟨.leaf,0⟩)=true:=by kernel_rfl
theorem ahh:E8 13:=by
 obtain ⟨σ,hσ⟩:=aed aad
 refine ⟨dJ (by kernel_rfl),fun w=>?_⟩
 have hR:Rel w.heap.size w (fun _=>none) ⟨.leaf,0⟩ w:=by
  refine ⟨Nat.le_refl _,Below.refl _ _,fun _ _ _ _ h=>?_,fun _ _ h=>?_,fun _ _ _ _ h=>?_,fun _ _ _ _ h=>?_,fun b _=>⟨rfl,?_⟩⟩
  ·cases h
  ·cases h
  ·cases h
  ·cases h
  ·exact Tr.Aw b
 refine (Dh anR (by kernel_rfl) hσ hR (aF:=#[]) trivial).mono fun e w' he=>?_
 obtain ⟨cv,rfl,φ',-,hR',hv,-⟩:=he
 have hv:cv = .bool true:=hv
 exact ⟨by rw [hv],hR'.bel⟩
end Go.Proofs.Xe
namespace Go.Proofs.Xe
open Go.RowKit Go.Proofs.Ins
theorem ald {f:Nat} {args:List V} {aF:Array Value} {W:World} (h:aT EN f args (St.of W) fun r _=>r = .c (.bool true)) (ha:sV (Ph.id W.heap.size) args aF.toList) :
  Calls Tryz.prog f aF W fun e w'=>e = .returned (.bool true)∧Below W.heap.size W w':=by
 obtain ⟨n,v,σ',h1,rfl⟩:=h
 refine (Dh am4 (by kernel_rfl) h1 (Rel.of W) ha).mono fun e w' he=>?_
 obtain ⟨cv,rfl,φ',-,hR',hv,-⟩:=he
 have hv:cv = .bool true:=hv
 exact ⟨by rw [hv],hR'.bel⟩
theorem OB {W:World} {nm:Nat} {v2 v3 v4 v5 v6 v7:Value} (hnm:nm≤255) {n2 n3 n4 n5 n6 n7:Nat} {M X U:Nat→Nat} {L P D:Nat→Nat→Nat} (h2:HL (St.of W).h 1 (pW W.heap.size v2) n2 fun i=>[.int .u16 (.ofNat (M i))]) (hM : ∀ i,i<n2→M i≤65535)
  (h3:HL (St.of W).h 4 (pW W.heap.size v3) n3 fun i=>[.int .u16 (.ofNat (L i 0)),.int .u16 (.ofNat (L i 1)),.int .u16 (.ofNat (L i 2)),.int .u16 (.ofNat (L i 3))]) (hL : ∀ i j,i<n3→L i j≤65535) (hn3:n3≤140737488351232)
  (h4:HL (St.of W).h 3 (pW W.heap.size v4) n4 fun i=>[.int .u16 (.ofNat (P i 0)),.int .u16 (.ofNat (P i 1)),.int .u16 (.ofNat (P i 2))]) (hP : ∀ i j,i<n4→P i j≤65535) (hn4:n4≤140737488351232)
  (h5:HL (St.of W).h 3 (pW W.heap.size v5) n5 fun i=>[.int .u16 (.ofNat (D i 0)),.int .u16 (.ofNat (D i 1)),.int .u16 (.ofNat (D i 2))]) (hD : ∀ i j,i<n5→D i j≤65535) (hn5:n5≤140737488351232)
  (h6:HL (St.of W).h 1 (pW W.heap.size v6) n6 fun i=>[.int .u16 (.ofNat (X i))]) (hX : ∀ i,i<n6→X i≤65535) (h7:HL (St.of W).h 1 (pW W.heap.size v7) n7 fun i=>[.int .u16 (.ofNat (U i))]) (hU : ∀ i,i<n7→U i≤65535) :
  Calls Tryz.prog 5 #[.int .u8 (nm:Int),v2,v3,v4,v5,v6,v7] W fun e w'=>e = .returned (.bool true)∧Below W.heap.size W w' :=
 ald (Jh (WF.of W) ahh hnm M L P D h2 hM h3 hL (by omega) h4 hP (by omega) h5 hD (by omega) X h6 hX U h7 hU) ⟨rfl,vJ _ _ h2.kn,vJ _ _ h3.kn,vJ _ _ h4.kn,vJ _ _ h5.kn,vJ _ _ h6.kn,vJ _ _ h7.kn,trivial⟩
end Go.Proofs.Xe
namespace Go.Proofs.Xe
open Go Go.RowKit Go.ChangeShapes Go.WideShapes Go.ChangeAt Go.Proofs.Ins Go.Proofs.YtjonjhcaniinaaaGreatDoor
set_option maxRecDepth 100000 in
theorem monotone_lifted (os:Os) (started:os.Started) (H:Type) (enc:TypeId×Value→H) :
  ReturnsInHanded {} Tryz.checked os 5 .any (fun w args=>(Rows.clearingMonotoneSpec.pre enc Tryz.prog Tryz.f5 [] false w args∧laidMetH Tryz.prog V6 w)∧sizedMet enc Tryz.prog Tryz.f5 (OpenSpec.ofChange Rows.clearingMonotoneSpec) false w args)
   (Rows.clearingMonotoneSpec.post enc Tryz.prog Tryz.f5 false true false false):=by
 refine returnsInHanded_of_change_and (C:=Tryz.checked) (X:=fun w _=>laidMetH Tryz.prog V6 w) (fun _ _ _ hh h=>h.of_heap hh) own' started (by kernel_rfl) Tryz.func5
  (ChangeSpec.witness_shaped (enc:=enc) (C:=Tryz.checked) (os:=os) (X:=fun w _=>laidMetH Tryz.prog V6 w) false (World.laidAll Tryz.prog os V6) #[.int .u8 0,.slice none 0 0,.slice none 0 0,.slice none 0 0,.slice none 0 0,.slice none 0 0,.slice none 0 0] 8 (World.laidAll_os _ _ _)
   (World.shaped_of_ZipB (by kernel_rfl) (by kernel_rfl)) (by kernel_rfl) (by kernel_rfl) (by kernel_rfl)
   (by rw [MakeChecks.laidMetH_plain _ _ _ (by kernel_rfl)];exact laidMet_laidAll _ (by kernel_rfl) (by kernel_rfl))) ?_
 intro W base args ds gs before hval0 hW hc hsz hL _
 have hval : ∀ (j:Nat) t v,Tryz.f5.params[j]?=some t→args[j]?=some v→Value.okWide Tryz.prog W .any base t v:=hval0
 have hW':=hW
 obtain ⟨p,q,hA0,hV,rfl,_,_⟩:=hW
 have hA:DataW.TrodAll enc Tryz.prog W 0 (fun _=>true) true Tryz.f5.params.toList args.toList ds p:=hA0
 have hsz1:(DataW.weightsEach Tryz.prog (Tryz.f5.params.toList ++ Rows.clearingMonotoneSpec.plain.varTypes Tryz.prog) (ds ++ gs)).all (·≤reachBytes)=true:=hsz
 obtain ⟨rfl,rfl⟩:=trodVars_none hV
 rw [Tryz.params5] at hsz1 hval hA
 clear hA0 hval0 hsz hc hL hV
 obtain ⟨v1,vs1,d1,ds1,p1,q1,e1,rfl,rfl,h1,hA⟩:=trodAll_cons hA
 obtain ⟨v2,vs2,d2,ds2,p2,q2,rfl,rfl,rfl,h2,hA⟩:=trodAll_cons hA
 obtain ⟨v3,vs3,d3,ds3,p3,q3,rfl,rfl,rfl,h3,hA⟩:=trodAll_cons hA
 obtain ⟨v4,vs4,d4,ds4,p4,q4,rfl,rfl,rfl,h4,hA⟩:=trodAll_cons hA
 obtain ⟨v5,vs5,d5,ds5,p5,q5,rfl,rfl,rfl,h5,hA⟩:=trodAll_cons hA
 obtain ⟨v6,vs6,d6,ds6,p6,q6,rfl,rfl,rfl,h6,hA⟩:=trodAll_cons hA
 obtain ⟨v7,vs7,d7,ds7,p7,q7,rfl,rfl,rfl,h7,hA⟩:=trodAll_cons hA
 obtain ⟨rfl,rfl,rfl⟩:=trodAll_nil hA
 obtain rfl:args = #[v1,v2,v3,v4,v5,v6,v7]:=by rw [← Array.toArray_toList (xs:=args),e1]
 clear hA e1
 obtain ⟨D1,rfl,b1⟩:=an9 (hval 0 _ _ rfl rfl) h1
 obtain ⟨a2,n2,c2,f2,rfl,o2⟩:=qp Tryz.underlying22 (hval 1 _ _ rfl rfl) h2
 obtain ⟨w2,m2,D2,e2,l2,s2,b2⟩:=Uu o2 (qm hsz1 (j:=1) rfl rfl)
 obtain rfl:w2 = .slice a2 n2 c2:=by simpa using e2.symm
 obtain ⟨a3,n3,c3,f3,rfl,o3⟩:=qp Tryz.underlying23 (hval 2 _ _ rfl rfl) h3
 obtain ⟨w3,m3,D3,e3,l3,s3,b3⟩:=ajR o3 (qm hsz1 (j:=2) rfl rfl)
 obtain rfl:w3 = .slice a3 n3 c3:=by simpa using e3.symm
 obtain ⟨a4,n4,c4,f4,rfl,o4⟩:=qp Tryz.underlying24 (hval 3 _ _ rfl rfl) h4
 obtain ⟨w4,m4,D4,e4,l4,s4,b4⟩:=WO o4 (qm hsz1 (j:=3) rfl rfl)
 obtain rfl:w4 = .slice a4 n4 c4:=by simpa using e4.symm
 obtain ⟨a5,n5,c5,f5,rfl,o5⟩:=qp Tryz.underlying24 (hval 4 _ _ rfl rfl) h5
 obtain ⟨w5,m5,D5,e5,l5,s5,b5⟩:=WO o5 (qm hsz1 (j:=4) rfl rfl)
 obtain rfl:w5 = .slice a5 n5 c5:=by simpa using e5.symm
 obtain ⟨a6,n6,c6,f6,rfl,o6⟩:=qp Tryz.underlying22 (hval 5 _ _ rfl rfl) h6
 obtain ⟨w6,m6,D6,e6,l6,s6,b6⟩:=Uu o6 (qm hsz1 (j:=5) rfl rfl)
 obtain rfl:w6 = .slice a6 n6 c6:=by simpa using e6.symm
 obtain ⟨a7,n7,c7,f7,rfl,o7⟩:=qp Tryz.underlying22 (hval 6 _ _ rfl rfl) h7
 obtain ⟨w7,m7,D7,e7,l7,s7,b7⟩:=Uu o7 (qm hsz1 (j:=6) rfl rfl)
 obtain rfl:w7 = .slice a7 n7 c7:=by simpa using e7.symm
 exact aaQ rfl rfl rfl (by kernel_rfl) hW' (OB b1 s2 b2 s3 b3 l3 s4 b4 l4 s5 b5 l5 s6 b6 s7 b7)
end Go.Proofs.Xe
