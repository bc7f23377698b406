/- The walks of gX.member, earlier. -/
import Derived.Test.YtjonjhcaniinaaaGreatDoorZ21
set_option linter.unusedSimpArgs false
set_option linter.unusedVariables false
namespace Go.Proofs.Ins
open Go.RowKit
theorem duo (w:World) (vs us:Array Value) (T U:TypeId):bU ((w.alloc (.cells vs T)).alloc (.cells us U)) w.heap.size vs∧bU ((w.alloc (.cells vs T)).alloc (.cells us U)) (w.heap.size+1) us∧Below w.heap.size w ((w.alloc (.cells vs T)).alloc (.cells us U)):=by
 refine ⟨(bU.new w vs T).alloc _,?_,((Below.refl _ _).alloc (Nat.le_refl _) _).alloc (by simp) _⟩
 have:=bU.new (w.alloc (.cells vs T)) us U
 rwa [World.size_alloc] at this
def ix {α:Type} [Inhabited α] (l:List α) (i:Nat):α:=l.getD i default
theorem dV {α:Type} [Inhabited α] {l:List α} {i:Nat} (h:i<l.length):ix l i=l[i]:=by unfold ix;simp [List.getD,h]
theorem KR {α:Type} [Inhabited α] (l:List α) (x:α) (i:Nat):ix (l ++ [x]) i=if i<l.length then ix l i else if i=l.length then x else default:=by
 unfold ix
 by_cases h:i<l.length
 ·simp [List.getD,h,List.getElem?_append_left h]
 ·rw [if_neg h]
  by_cases e:i=l.length
  ·subst e;simp
  ·rw [if_neg e];simp [List.getD,List.getElem?_append_right (Nat.le_of_not_lt h)]
   rw [List.getElem?_eq_none];rfl
   simp;omega
theorem jL {α:Type} [Inhabited α] {l:List α} {i:Nat} (h:i<l.length):ix l i∈l:=by rw [dV h];exact List.getElem_mem h
theorem NH {α:Type} [Inhabited α] {l:List α} {i k:Nat} (h:i<k):ix (l.take k) i=ix l i:=by unfold ix;simp [List.getD,List.getElem?_take,h]
theorem bD {α:Type} [Inhabited α] {l:List α} {k:Nat} (h:k<l.length):l.take (k+1)=l.take k ++ [ix l k]:=by
 rw [dV h,List.take_add_one];simp [h]
structure C5 where
 h:Int
 r:Int
 a:R3
instance:Inhabited C5:=⟨⟨0,0,default⟩⟩
def C5.c (x:C5):List Value:=[.int .i64 x.h,.int .i64 x.r,.bool x.a.n,.string x.a.s,.string x.a.d]
structure vZ where
 k:Int
 b:Bool
 a:R3
instance:Inhabited vZ:=⟨⟨0,false,default⟩⟩
def vZ.c (x:vZ):List Value:=[.int .i64 x.k,.bool x.b,.bool x.a.n,.string x.a.s,.string x.a.d]
structure Lg where
 e:Int
 k:Int
instance:Inhabited Lg:=⟨⟨0,0⟩⟩
def Lg.c (x:Lg):List Value:=[.int .i64 x.e,.int .i64 x.k]
abbrev Dp:=List vZ
abbrev eU:=List Dp
structure oU where
 m:R3
 c:List C5
 a:List eU
instance:Inhabited oU:=⟨⟨default,[],[]⟩⟩
structure nR where
 w:R3
 l:List Lg
instance:Inhabited nR:=⟨⟨default,[]⟩⟩
structure iy where
 e:List oU
 d:List nR
instance:Inhabited iy:=⟨⟨[],[]⟩⟩
def Sl (w:World) (p:Nat→Prop) (sz:Nat) (v:Value) (n:Nat) (G:Nat→List Value):Prop :=
 ∃ a cap,v = .slice a n cap∧n≤cap∧cap≤9223372036854775807∧(n=0∨∃ b off,a=some ⟨b,off,none⟩∧p b∧b<w.heap.size∧uT w b off sz n G)∧∀ i,i<n→(G i).length=sz
theorem Sl.nil (w:World) (p:Nat→Prop) (sz:Nat) (G:Nat→List Value):Sl w p sz (.slice none 0 0) 0 G:=⟨none,0,rfl,Nat.le_refl _,by omega,.inl rfl,fun i hi=>by omega⟩
theorem Sl.mono {w:World} {p q:Nat→Prop} {sz:Nat} {v:Value} {n:Nat} {G:Nat→List Value} (h:Sl w p sz v n G) (hp : ∀ b,p b→q b):Sl w q sz v n G:=by
 obtain ⟨a,cap,hv,h1,h2,h3,h4⟩:=h
 refine ⟨a,cap,hv,h1,h2,?_,h4⟩
 rcases h3 with h3|⟨b,off,ha,hb,r⟩
 ·exact .inl h3
 ·exact .inr ⟨b,off,ha,hp b hb,r⟩
theorem Sl.keep {w w' : World} {p:Nat→Prop} {sz:Nat} {v:Value} {n:Nat} {G:Nat→List Value} (h:Sl w p sz v n G) (hb : ∀ b,p b→b<w.heap.size→w'.heap[b]?=w.heap[b]?):Sl w' p sz v n G:=by
 obtain ⟨a,cap,hv,h1,h2,h3,h4⟩:=h
 refine ⟨a,cap,hv,h1,h2,?_,h4⟩
 rcases h3 with h3|⟨b,off,ha,hpb,hl,r⟩
 ·exact .inl h3
 ·have e:=hb b hpb hl
  refine .inr ⟨b,off,ha,hpb,?_,fun i j hi hj=>?_⟩
  ·by_cases hlt:b<w'.heap.size
   ·exact hlt
   ·rw [Array.getElem?_eq_none (by omega),Array.getElem?_eq_getElem hl] at e;cases e
  ·rw [World.cell?_of_block (w:=w) (a:=⟨b,off+i*sz+j,none⟩) e];exact r i j hi hj
theorem Sl.congr {w:World} {p:Nat→Prop} {sz:Nat} {v:Value} {n:Nat} {G G' : Nat→List Value} (h:Sl w p sz v n G) (hg : ∀ i,i<n→G i=G' i):Sl w p sz v n G':=by
 obtain ⟨a,cap,hv,h1,h2,h3,h4⟩:=h
 refine ⟨a,cap,hv,h1,h2,?_,fun i hi=>by rw [← hg i hi];exact h4 i hi⟩
 rcases h3 with h3|⟨b,off,ha,hpb,hl,r⟩
 ·exact .inl h3
 ·exact .inr ⟨b,off,ha,hpb,hl,fun i j hi hj=>by rw [← hg i hi];exact r i j hi hj⟩
def RL {α:Type} [Inhabited α] (w:World) (p:Nat→Prop) (sz:Nat) (Q:List Value→α→Prop) (v:Value) (l:List α):Prop :=
 ∃ G,Sl w p sz v l.length G∧∀ i,i<l.length→Q (G i) (ix l i)
theorem RL.imp {α:Type} [Inhabited α] {w w' : World} {p q:Nat→Prop} {sz:Nat} {Q Q' : List Value→α→Prop} {v:Value} {l:List α} (h:RL w p sz Q v l) (hp : ∀ b,p b→q b)
  (hb : ∀ b,p b→b<w.heap.size→w'.heap[b]?=w.heap[b]?) (hQ : ∀ c x,Q c x→Q' c x):RL w' q sz Q' v l:=by
 obtain ⟨G,h1,h2⟩:=h
 exact ⟨G,(h1.keep hb).mono hp,fun i hi=>hQ _ _ (h2 i hi)⟩
def QV {α:Type} (c:α→List Value) (cs:List Value) (x:α):Prop:=cs=c x
theorem RL.plain {α:Type} [Inhabited α] {w:World} {p:Nat→Prop} {sz:Nat} {c:α→List Value} {v:Value} {l:List α} (h:RL w p sz (QV c) v l):Sl w p sz v l.length (fun i=>c (ix l i)):=by
 obtain ⟨G,h1,h2⟩:=h
 exact h1.congr h2
def xH (w:World) (p:Nat→Prop) (v:Value) (l:List vZ):Prop:=RL w p 5 (QV vZ.c) v l
def mg (w:World) (p:Nat→Prop) (v:Value) (l:List C5):Prop:=RL w p 5 (QV C5.c) v l
def xI (w:World) (p:Nat→Prop) (v:Value) (l:List Lg):Prop:=RL w p 2 (QV Lg.c) v l
def WL (w:World) (p:Nat→Prop) (cs:List Value) (t:Dp):Prop:=∃ v,cs=[v]∧xH w p v t
def jM (w:World) (p:Nat→Prop) (v:Value) (l:eU):Prop:=RL w p 1 (WL w p) v l
def afY (w:World) (p:Nat→Prop) (cs:List Value) (a:eU):Prop:=∃ v,cs=[v]∧jM w p v a
def xJ (w:World) (p:Nat→Prop) (v:Value) (l:List eU):Prop:=RL w p 1 (afY w p) v l
def afZ (w:World) (p:Nat→Prop) (cs:List Value) (e:oU):Prop:=∃ cv av,cs=[.bool e.m.n,.string e.m.s,.string e.m.d,cv,av]∧mg w p cv e.c∧xJ w p av e.a
def Ql (w:World) (p:Nat→Prop) (v:Value) (l:List oU):Prop:=RL w p 5 (afZ w p) v l
def af0 (w:World) (p:Nat→Prop) (cs:List Value) (d:nR):Prop:=∃ lv,cs=[.bool d.w.n,.string d.w.s,.string d.w.d,lv]∧xI w p lv d.l
def Qm (w:World) (p:Nat→Prop) (v:Value) (l:List nR):Prop:=RL w p 4 (af0 w p) v l
def Ez (w:World) (p:Nat→Prop) (v:Value) (g:iy):Prop:=∃ ev dv,v = .agg #[ev,dv]∧Ql w p ev g.e∧Qm w p dv g.d
structure Keeps (p:Nat→Prop) (w w' : World):Prop where
 block : ∀ b,p b→b<w.heap.size→w'.heap[b]?=w.heap[b]?
theorem Keeps.of_below {p:Nat→Prop} {w w' : World} (h:Below w.heap.size w w'):Keeps p w w':=⟨fun b _ hb=>h.block b hb⟩
section
variable {w w' : World} {p q:Nat→Prop} {v:Value} {cs:List Value}
theorem xH.keep {l:List vZ} (h:xH w p v l) (k:Keeps p w w') (hp : ∀ b,p b→q b):xH w' q v l:=RL.imp h hp k.block fun _ _ h=>h
theorem mg.keep {l:List C5} (h:mg w p v l) (k:Keeps p w w') (hp : ∀ b,p b→q b):mg w' q v l:=RL.imp h hp k.block fun _ _ h=>h
theorem xI.keep {l:List Lg} (h:xI w p v l) (k:Keeps p w w') (hp : ∀ b,p b→q b):xI w' q v l:=RL.imp h hp k.block fun _ _ h=>h
theorem WL.keep {t:Dp} (h:WL w p cs t) (k:Keeps p w w') (hp : ∀ b,p b→q b):WL w' q cs t:=by obtain ⟨v,e,h⟩:=h;exact ⟨v,e,h.keep k hp⟩
theorem jM.keep {l:eU} (h:jM w p v l) (k:Keeps p w w') (hp : ∀ b,p b→q b):jM w' q v l:=RL.imp h hp k.block fun _ _ h=>h.keep k hp
theorem afY.keep {t:eU} (h:afY w p cs t) (k:Keeps p w w') (hp : ∀ b,p b→q b):afY w' q cs t:=by obtain ⟨v,e,h⟩:=h;exact ⟨v,e,h.keep k hp⟩
theorem xJ.keep {l:List eU} (h:xJ w p v l) (k:Keeps p w w') (hp : ∀ b,p b→q b):xJ w' q v l:=RL.imp h hp k.block fun _ _ h=>h.keep k hp
theorem afZ.keep {t:oU} (h:afZ w p cs t) (k:Keeps p w w') (hp : ∀ b,p b→q b):afZ w' q cs t:=by obtain ⟨v,u,e,h1,h2⟩:=h;exact ⟨v,u,e,h1.keep k hp,h2.keep k hp⟩
theorem Ql.keep {l:List oU} (h:Ql w p v l) (k:Keeps p w w') (hp : ∀ b,p b→q b):Ql w' q v l:=RL.imp h hp k.block fun _ _ h=>h.keep k hp
theorem af0.keep {t:nR} (h:af0 w p cs t) (k:Keeps p w w') (hp : ∀ b,p b→q b):af0 w' q cs t:=by obtain ⟨v,e,h1⟩:=h;exact ⟨v,e,h1.keep k hp⟩
theorem Qm.keep {l:List nR} (h:Qm w p v l) (k:Keeps p w w') (hp : ∀ b,p b→q b):Qm w' q v l:=RL.imp h hp k.block fun _ _ h=>h.keep k hp
theorem Ez.keep {g:iy} (h:Ez w p v g) (k:Keeps p w w') (hp : ∀ b,p b→q b):Ez w' q v g:=by obtain ⟨a,b,e,h1,h2⟩:=h;exact ⟨a,b,e,h1.keep k hp,h2.keep k hp⟩
theorem xH.on {l:List vZ} (h:xH w p v l) (k:Below w.heap.size w w'):xH w' p v l:=h.keep (.of_below k) fun _ h=>h
theorem mg.on {l:List C5} (h:mg w p v l) (k:Below w.heap.size w w'):mg w' p v l:=h.keep (.of_below k) fun _ h=>h
theorem xI.on {l:List Lg} (h:xI w p v l) (k:Below w.heap.size w w'):xI w' p v l:=h.keep (.of_below k) fun _ h=>h
theorem jM.on {l:eU} (h:jM w p v l) (k:Below w.heap.size w w'):jM w' p v l:=h.keep (.of_below k) fun _ h=>h
theorem xJ.on {l:List eU} (h:xJ w p v l) (k:Below w.heap.size w w'):xJ w' p v l:=h.keep (.of_below k) fun _ h=>h
theorem Ez.on {g:iy} (h:Ez w p v g) (k:Below w.heap.size w w'):Ez w' p v g:=h.keep (.of_below k) fun _ h=>h
end
theorem Sl.get {w:World} {p:Nat→Prop} {sz:Nat} {a:Option Addr} {n cap:Nat} {G:Nat→List Value} (h:Sl w p sz (.slice a n cap) n G) (hn:0<n) :
  ∃ b off,a=some ⟨b,off,none⟩∧p b∧b<w.heap.size∧uT w b off sz n G:=by
 obtain ⟨a',cap',hv,h1,h2,h3,h4⟩:=h
 simp only [Value.slice.injEq] at hv
 obtain ⟨rfl,-,rfl⟩:=hv
 rcases h3 with h3|h3
 ·omega
 ·exact h3
theorem Sl.form {w:World} {p:Nat→Prop} {sz:Nat} {v:Value} {n:Nat} {G:Nat→List Value} (h:Sl w p sz v n G) : ∃ a cap,v = .slice a n cap∧n≤cap∧cap≤9223372036854775807:=by
 obtain ⟨a,cap,hv,h1,h2,_⟩:=h
 exact ⟨a,cap,hv,h1,h2⟩
theorem jF.sl {w:World} {base:Nat} {T:TypeId} {sz:Nat} {v:Value} {n:Nat} {F:Nat→List Value} (h:jF w base T sz v n F):Sl w (fun b=>base≤b) sz v n F:=by
 rcases h.form with ⟨rfl,rfl⟩|⟨g,cap,rfl,hb,hn,hm,hl,hr⟩
 ·exact Sl.nil _ _ _ _
 ·exact ⟨_,cap,rfl,hn,hm,.inr ⟨g,0,rfl,hb,hl,hr⟩,h.2⟩
theorem Own.sl {w:World} {b sz n:Nat} {F:Nat→List Value} (h:Own w b sz n F) (hn:n≤9223372036854775807) (hl : ∀ i,i<n→(F i).length=sz):Sl w (fun x=>x=b) sz (.slice (some ⟨b,0,none⟩) n n) n F :=
 ⟨_,n,rfl,Nat.le_refl _,hn,.inr ⟨b,0,rfl,rfl,h.lt,h.reads⟩,hl⟩
end Go.Proofs.Ins
namespace Go.Proofs.Xe
open Go.RowKit Go.Proofs.Ins
def pW (N:Nat):Value→B
 | .int k n=>.int k n
 | .bool b=>.bool b
 | .string s=>.str s
 | .pointer (some a)=>if a.spot=none∧a.block<N then .ptr a.block a.off else .any
 | .pointer none=>.MS
 | .slice (some a) n K=>if K≤9223372036854775807 then (if a.spot=none∧a.block<N∧n≤K then .sl a.block a.off n .any else if n=0 then .sl 0 0 0 .any else .any) else .any
 | .slice none 0 0=>.aW
 | _=>.any
def Ph.id (N:Nat):Ph:=fun b=>if b<N then some (b,0) else none
theorem vJ (N:Nat) (v:Value) (h:(pW N v).kn=true):RB (Ph.id N) (pW N v) v:=by
 unfold pW at h ⊢
 split at h <;> try rfl
 ·next a =>
  split at h
  ·next hc =>
   rw [if_pos hc]
   obtain ⟨b,o,s⟩:=a
   obtain ⟨h1,h2⟩:=hc
   dsimp only at h1 h2
   subst h1
   exact ⟨(b,0),if_pos h2,rfl⟩
  ·cases h
 ·next a n K =>
  split at h
  ·next hK =>
   rw [if_pos hK]
   split at h
   ·next hc =>
    rw [if_pos hc]
    obtain ⟨b,o,s⟩:=a
    obtain ⟨h1,h2,h3⟩:=hc
    dsimp only at h1 h2
    subst h1
    exact .inl ⟨(b,0),K,if_pos h2,rfl,h3,hK,trivial⟩
   ·next hc =>
    rw [if_neg hc]
    split at h
    ·next h0 =>
     subst h0
     rw [if_pos rfl]
     exact .inr ⟨rfl,rfl,a,K,rfl,hK⟩
    ·cases h
  ·cases h
 ·cases h
def St.of (w:World):St:=⟨.fn fun b=>match w.heap[b]? with|some (.cells cs _ _)=>some ⟨cs.toList.map (pW w.heap.size),some (0,1)⟩|_=>none,w.heap.size⟩
theorem WF.of (w:World):WF (St.of w):=fun b hb=>by
 have hb:w.heap.size≤b:=hb
 show (match w.heap[b]? with|some (.cells cs _ _)=>some _|_=>none)=none
 rw [Array.getElem?_eq_none hb]
theorem Rel.of (w:World):Rel w.heap.size w (Ph.id w.heap.size) (St.of w) w where
 n0:=Nat.le_refl _
 bel:=Below.refl _ _
 inj:=fun b b' p p' h1 _ _ hN _ _=>by
  unfold Ph.id at h1
  split at h1
  ·next hlt=>cases h1;exact absurd hlt (Nat.not_lt.mpr hN)
  ·cases h1
 lo:=fun b p h=>by
  unfold Ph.id at h
  split at h
  ·next hlt=>cases h;exact hlt
  ·cases h
 fz:=fun b k p hk _ _=>by
  have hk:(match w.heap[b]? with|some (.cells cs _ _)=>some (⟨cs.toList.map (pW w.heap.size),some (0,1)⟩:Bk)|_=>none)=some k:=hk
  split at hk
  ·cases hk;exact ⟨rfl,rfl⟩
  ·cases hk
 blk:=fun b k p hk hp=>by
  have hp' : p.1=b∧b<w.heap.size:=by
   unfold Ph.id at hp
   split at hp
   ·next hlt=>cases hp;exact ⟨rfl,hlt⟩
   ·cases hp
  have hk:(match w.heap[b]? with|some (.cells cs _ _)=>some (⟨cs.toList.map (pW w.heap.size),some (0,1)⟩:Bk)|_=>none)=some k:=hk
  split at hk
  ·next cs T z hcs =>
   cases hk
   refine .inr (.inr ⟨rfl,rfl,fun j x hj hx=>?_⟩)
   simp only [List.getElem?_map,Option.map_eq_some_iff] at hj
   obtain ⟨v,hv,rfl⟩:=hj
   refine ⟨v,?_,vJ _ _ hx⟩
   rw [hp'.1]
   unfold World.cell?
   rw [hcs]
   simpa using hv
  ·cases hk
 ah:=fun b hb=>by
  have hb:w.heap.size≤b:=hb
  refine ⟨if_neg (by omega),?_⟩
  show (match w.heap[b]? with|some (.cells cs _ _)=>some _|_=>none)=none
  rw [Array.getElem?_eq_none hb]
theorem amO {w:World} {b o n:Nat} {l:List Value} (hn:l.length=n) (h0:0<n) (h : ∀ j v,l[j]?=some v→w.cell? ⟨b,o+j,none⟩=some v) (hk : ∀ v∈l,(pW w.heap.size v).kn=true) :
  ld (St.of w).h b o n true=some (.agg (l.map (pW w.heap.size))):=by
 have hc : ∃ cs T z,w.heap[b]?=some (.cells cs T z)∧(cs.toList.drop o).take n=l:=by
  match l,hn with
  | v::l',hn =>
   have h1:=h 0 v rfl
   unfold World.cell? at h1
   dsimp only at h1
   split at h1
   ·next cs T z e =>
    refine ⟨cs,T,z,e,?_⟩
    apply List.ext_getElem?
    intro j
    by_cases hj:j<n
    ·rw [List.getElem?_take_of_lt hj,List.getElem?_drop]
     cases hv:(v::l')[j]? with
     | none=>rw [List.getElem?_eq_none_iff] at hv;omega
     | some u =>
      have:=h j u hv
      unfold World.cell? at this
      dsimp only at this
      rw [e] at this
      simpa using this
    ·rw [List.getElem?_eq_none (by simp;omega),List.getElem?_eq_none (by omega)]
   ·cases h1
  | [],hn=>simp at hn;omega
 obtain ⟨cs,T,z,e,hl⟩:=hc
 have hg:(St.of w).h b=some ⟨cs.toList.map (pW w.heap.size),some (0,1)⟩:=by
  show (match w.heap[b]? with|some (.cells cs _ _)=>some (⟨cs.toList.map (pW w.heap.size),some (0,1)⟩:Bk)|_=>none)=_
  rw [e]
 unfold ld
 rw [hg]
 show (bif true then _ else _)=_
 rw [cond_true]
 unfold wV
 dsimp only
 rw [← List.map_drop,← List.map_take,hl,List.length_map,hn,WA,show (l.map (pW w.heap.size)).all B.kn=true by
  rw [List.all_eq_true];intro x hx;obtain ⟨v,hv,rfl⟩:=List.mem_map.mp hx;exact hk v hv]
 rfl
theorem WM (N:Nat) (a:Addr) (n K:Nat):pW N (.slice (some a) n K)=if K≤9223372036854775807 then (if a.spot=none∧a.block<N∧n≤K then .sl a.block a.off n .any else if n=0 then .sl 0 0 0 .any else .any) else .any:=rfl
theorem HL.of {w:World} {a:Option Addr} {n cap e:Nat} {F:Nat→List Value} (h:LP w a n e F) (hf:(a=none∧n=0∧cap=0)∨∃ x,a=some x) (hn:n≤cap) (hc:cap≤9223372036854775807) (he:0<e) (hF : ∀ i,i<n→(F i).length=e) (hk : ∀ i,i<n→∀ v∈F i,(pW w.heap.size v).kn=true) :
  HL (St.of w).h e (pW w.heap.size (.slice a n cap)) n fun i=>(F i).map (pW w.heap.size):=by
 rcases hf with ⟨rfl,rfl,rfl⟩|⟨x,rfl⟩
 ·exact .inl ⟨rfl,rfl⟩
 ·by_cases h0:n=0
  ·subst h0
   rw [WM,if_pos hc]
   split
   ·exact .inr ⟨_,_,_,rfl,fun i hi=>by omega⟩
   ·rw [if_pos rfl];exact .inr ⟨_,_,_,rfl,fun i hi=>by omega⟩
  ·rcases h with h|⟨b,off,e1,hb,hr⟩
   ·exact absurd h h0
   ·cases e1
    rw [WM,if_pos hc,if_pos ⟨rfl,hb,hn⟩]
    refine .inr ⟨_,_,_,rfl,fun i hi=>amO (hF i hi) he (fun j v hj=>?_) (hk i hi)⟩
    have hlt:j<e:=by rw [← hF i hi];exact (List.getElem?_eq_some_iff.mp hj).1
    have:=hr i j hi hlt
    rw [Nat.add_assoc] at this ⊢
    rw [this,hj]
end Go.Proofs.Xe
namespace Go.Proofs.Xe
open Go Go.RowKit Go.ChangeShapes Go.WideShapes Go.ChangeAt Go.Deep Go.Proofs.Ins Go.Proofs.YtjonjhcaniinaaaGreatDoor
section
variable {H:Type} {enc:TypeId×Value→H} {W:World} {sp:Nat→Bool} {held:Bool}
theorem NI {P:Program} {t e:TypeId} (ht:P.underlying t=some (.slice e)) {fuel:Nat} {a:Option Addr} {n c:Nat} {x:DataW H×List MemPlace} (h:DataW.trod enc P W 0 sp held fuel t [.slice a n c]=some x):((a=none∧n=0∧c=0)∨∃ y,a=some y)∧n≤c∧c≤9223372036854775807:=by
 rcases open_slice ht h with ⟨e1,-⟩|⟨a',len,cap,m,k,D,Pl,e1,-,hl,hm,-⟩
 ·simp only [List.cons.injEq,Value.slice.injEq,and_true] at e1
  obtain ⟨rfl,rfl,rfl⟩:=e1
  exact ⟨.inl ⟨rfl,rfl,rfl⟩,Nat.le_refl _,by omega⟩
 ·simp only [List.cons.injEq,Value.slice.injEq,and_true] at e1
  obtain ⟨rfl,rfl,rfl⟩:=e1
  simp only [maxLen] at hm
  exact ⟨.inr ⟨_,rfl⟩,hl,by omega⟩
set_option maxRecDepth 100000 in
theorem Uu {fuel:Nat} {cs:List Value} {x:DataW H×List MemPlace} (h:DataW.trod enc Tryz.prog W 0 sp held fuel 22 cs=some x) (hL:Light Tryz.prog 22 x.1) :
  ∃ v n,∃ M:Nat→Nat,cs=[v]∧n≤140737488351232∧HL (St.of W).h 1 (pW W.heap.size v) n (fun i=>[.int .u16 (.ofNat (M i))])∧∀ i,i<n→M i≤65535:=by
 obtain ⟨a,n,c,M,rfl,hn,hs,hM⟩:=aaP h hL
 obtain ⟨h1,h2,h3⟩:=NI Tryz.underlying22 h
 exact ⟨_,n,M,rfl,hn,HL.of hs h1 h2 h3 (by decide) (fun _ _=>rfl) (fun i _ v hv=>by
  simp only [c16,List.mem_singleton] at hv
  rw [hv];rfl),hM⟩
set_option maxRecDepth 100000 in
theorem NJ {fuel:Nat} {cs:List Value} {x:DataW H×List MemPlace} (h:DataW.trod enc Tryz.prog W 0 sp held fuel 62 cs=some x) :
  ∃ m:Nat→Nat,cs=[.int .u16 (m 0:Int),.int .u16 (m 1:Int),.int .u16 (m 2:Int),.int .u16 (m 3:Int)]∧∀ j,m j≤65535:=by
 obtain ⟨xs,n,rfl,rfl,hl,hx,hf⟩:=DataW.trod_array Tryz.underlying62 h
 have hc:Tryz.prog.cellsOf 62=4:=by kernel_rfl
 have hc0:Tryz.prog.cellsOf 61=1:=by kernel_rfl
 simp only [hc0,Nat.mul_one] at hf
 rw [hc] at hl
 match cs,hl,xs,hx with
 | [c0,c1,c2,c3],_,[x0,x1,x2,x3],_ =>
  obtain ⟨m0,e0,l0⟩:=lJ (show DataW.trod enc Tryz.prog W 0 sp held n 61 [c0]=some x0 from hf 0 (by omega))
  obtain ⟨m1,e1,l1⟩:=lJ (show DataW.trod enc Tryz.prog W 0 sp held n 61 [c1]=some x1 from hf 1 (by omega))
  obtain ⟨m2,e2,l2⟩:=lJ (show DataW.trod enc Tryz.prog W 0 sp held n 61 [c2]=some x2 from hf 2 (by omega))
  obtain ⟨m3,e3,l3⟩:=lJ (show DataW.trod enc Tryz.prog W 0 sp held n 61 [c3]=some x3 from hf 3 (by omega))
  simp at e0 e1 e2 e3
  subst e0 e1 e2 e3
  exact ⟨fun j=>if j=0 then m0 else if j=1 then m1 else if j=2 then m2 else m3,rfl,fun j=>by dsimp only;split;exact l0;split;exact l1;split;exact l2;exact l3⟩
set_option maxRecDepth 100000 in
theorem ajR {fuel:Nat} {cs:List Value} {x:DataW H×List MemPlace} (h:DataW.trod enc Tryz.prog W 0 sp held fuel 23 cs=some x) (hL:Light Tryz.prog 23 x.1) :
  ∃ v n,∃ L:Nat→Nat→Nat,cs=[v]∧n≤140737488351232∧HL (St.of W).h 4 (pW W.heap.size v) n (fun i=>[.int .u16 (.ofNat (L i 0)),.int .u16 (.ofNat (L i 1)),.int .u16 (.ofNat (L i 2)),.int .u16 (.ofNat (L i 3))])∧∀ i j,i<n→L i j≤65535:=by
 obtain ⟨a,n,c,C,rfl,hn,hs0,hx⟩:=BZ (k:=4) Tryz.underlying23 (by kernel_rfl) (by omega) (of_decide_eq_true (by kernel_rfl)) h hL
 obtain ⟨L,hLL⟩:=choose_lt (α:=Nat→Nat) (p:=fun i m=>C i=[.int .u16 (m 0:Int),.int .u16 (m 1:Int),.int .u16 (m 2:Int),.int .u16 (m 3:Int)]∧∀ j,m j≤65535) (fun i hi=>by
  obtain ⟨_,n,y,h1,h2⟩:=hx i hi
  exact NJ h1)
 have hs:=hs0.congr fun i hi=>(hLL i hi).1
 obtain ⟨h1,h2,h3⟩:=NI Tryz.underlying23 h
 exact ⟨_,n,L,rfl,hn,HL.of hs h1 h2 h3 (by decide) (fun _ _=>rfl) (fun i _ v hv=>by
  simp only [List.mem_cons,List.not_mem_nil,or_false] at hv
  rcases hv with rfl|rfl|rfl|rfl <;> rfl),fun i j hi=>(hLL i hi).2 j⟩
set_option maxRecDepth 100000 in
theorem NK {fuel:Nat} {cs:List Value} {x:DataW H×List MemPlace} (h:DataW.trod enc Tryz.prog W 0 sp held fuel 65 cs=some x) :
  ∃ m:Nat→Nat,cs=[.int .u16 (m 0:Int),.int .u16 (m 1:Int),.int .u16 (m 2:Int)]∧∀ j,m j≤65535:=by
 obtain ⟨xs,n,rfl,rfl,hl,hx,hf⟩:=DataW.trod_array Tryz.underlying65 h
 have hc:Tryz.prog.cellsOf 65=3:=by kernel_rfl
 have hc0:Tryz.prog.cellsOf 61=1:=by kernel_rfl
 simp only [hc0,Nat.mul_one] at hf
 rw [hc] at hl
 match cs,hl,xs,hx with
 | [c0,c1,c2],_,[x0,x1,x2],_ =>
  obtain ⟨m0,e0,l0⟩:=lJ (show DataW.trod enc Tryz.prog W 0 sp held n 61 [c0]=some x0 from hf 0 (by omega))
  obtain ⟨m1,e1,l1⟩:=lJ (show DataW.trod enc Tryz.prog W 0 sp held n 61 [c1]=some x1 from hf 1 (by omega))
  obtain ⟨m2,e2,l2⟩:=lJ (show DataW.trod enc Tryz.prog W 0 sp held n 61 [c2]=some x2 from hf 2 (by omega))
  simp at e0 e1 e2
  subst e0 e1 e2
  exact ⟨fun j=>if j=0 then m0 else if j=1 then m1 else m2,rfl,fun j=>by dsimp only;split;exact l0;split;exact l1;exact l2⟩
set_option maxRecDepth 100000 in
theorem WO {fuel:Nat} {cs:List Value} {x:DataW H×List MemPlace} (h:DataW.trod enc Tryz.prog W 0 sp held fuel 24 cs=some x) (hL:Light Tryz.prog 24 x.1) :
  ∃ v n,∃ L:Nat→Nat→Nat,cs=[v]∧n≤140737488351232∧HL (St.of W).h 3 (pW W.heap.size v) n (fun i=>[.int .u16 (.ofNat (L i 0)),.int .u16 (.ofNat (L i 1)),.int .u16 (.ofNat (L i 2))])∧∀ i j,i<n→L i j≤65535:=by
 obtain ⟨a,n,c,C,rfl,hn,hs0,hx⟩:=BZ (k:=3) Tryz.underlying24 (by kernel_rfl) (by omega) (of_decide_eq_true (by kernel_rfl)) h hL
 obtain ⟨L,hLL⟩:=choose_lt (α:=Nat→Nat) (p:=fun i m=>C i=[.int .u16 (m 0:Int),.int .u16 (m 1:Int),.int .u16 (m 2:Int)]∧∀ j,m j≤65535) (fun i hi=>by
  obtain ⟨_,n,y,h1,h2⟩:=hx i hi
  exact NK h1)
 have hs:=hs0.congr fun i hi=>(hLL i hi).1
 obtain ⟨h1,h2,h3⟩:=NI Tryz.underlying24 h
 exact ⟨_,n,L,rfl,hn,HL.of hs h1 h2 h3 (by decide) (fun _ _=>rfl) (fun i _ v hv=>by
  simp only [List.mem_cons,List.not_mem_nil,or_false] at hv
  rcases hv with rfl|rfl|rfl <;> rfl),fun i j hi=>(hLL i hi).2 j⟩
end
end Go.Proofs.Xe
namespace Go.Proofs.Ins
def kM (f:Nat→Int):Nat→Int
 | 0=>0
 | n+1=>if kM f n=0 then f n else kM f n
theorem dS {f:Nat→Int} : ∀ {n:Nat},(∀ i,i<n→f i=0)→kM f n=0
 | 0,_=>rfl
 | n+1,h=>by
  unfold kM;rw [if_pos (dS fun i hi=>h i (by omega))];exact h n (by omega)
theorem pX {f:Nat→Int} {k:Nat} : ∀ {n:Nat},(∀ i,i<k→f i=0)→f k≠0→k<n→kM f n=f k
 | 0,_,_,h=>by omega
 | n+1,h,h2,h3=>by
  unfold kM
  by_cases e:k=n
  ·subst e;rw [if_pos (dS h)]
  ·have:=pX h h2 (show k<n by omega)
   rw [if_neg (by rw [this];exact h2),this]
theorem jI {f:Nat→Int} : ∀ {n:Nat},kM f n=0→∀ i,i<n→f i=0
 | 0,_,i,hi=>by omega
 | n+1,h,i,hi=>by
  unfold kM at h
  by_cases e:kM f n=0
  ·rw [if_pos e] at h
   by_cases e2:i=n
   ·rw [e2];exact h
   ·exact jI e i (by omega)
  ·rw [if_neg e] at h;exact absurd h e
theorem yG {f g:Nat→Int} : ∀ {n:Nat},(∀ i,i<n→f i=g i)→kM f n=kM g n
 | 0,_=>rfl
 | n+1,h=>by unfold kM;rw [yG (n:=n) fun i hi=>h i (by omega),h n (by omega)]
def mO (x:C5):Int:=if x.h < -1∨8≤x.h then 19 else if x.r<0∨7<x.r then 1 else if sg x.a.q<0 then 7 else 0
def memT (t:Dp) (c:Int):Bool:=t.any fun p=>p.k == c
def Bd (a:eU) (c:Int):Bool:=a.any fun t=>memT t c
def kD (l:List eU) (k:Nat) (c:Int):Bool:=(l.take k).any fun a=>Bd a c
def pY (n:Nat) (tk:Int→Bool) (p:vZ):Int :=
 if p.k < -1∨(n:Int)≤p.k then 1 else if p.k = -1∧p.b=false then 21 else if p.b=true∧sg p.a.q<0 then 7 else if p.k≠-1∧tk p.k=true then 20 else 0
def wu (a:eU):Bool:=decide (24<a.length) || a.any fun t=>decide (24<t.length)
def af2 (n:Nat) (tk:Int→Bool) (t:Dp):Int:=kM (fun i=>pY n tk (ix t i)) t.length
def ru (n:Nat) (tk:Int→Bool) (a:eU):Int:=if wu a=true then 2 else kM (fun i=>af2 n tk (ix a i)) a.length
def jU (e:oU):Int :=
 if 24<e.c.length∨12<e.a.length then 2 else if sg e.m.q<0 then 7
 else if kM (fun i=>mO (ix e.c i)) e.c.length≠0 then kM (fun i=>mO (ix e.c i)) e.c.length
 else kM (fun k=>ru e.c.length (kD e.a k) (ix e.a k)) e.a.length
theorem WQ {t:Dp} {c:Int} : memT t c=true↔∃ i,i<t.length∧(ix t i).k=c:=by
 unfold memT;rw [List.any_eq_true]
 constructor
 ·rintro ⟨x,hx,h⟩
  obtain ⟨i,hi,rfl⟩:=List.getElem_of_mem hx
  exact ⟨i,hi,by rw [dV hi];simpa using h⟩
 ·rintro ⟨i,hi,h⟩
  exact ⟨_,jL hi,by simpa using h⟩
theorem WS {a:eU} {c:Int} : Bd a c=true↔∃ i,i<a.length∧memT (ix a i) c=true:=by
 unfold Bd;rw [List.any_eq_true]
 constructor
 ·rintro ⟨x,hx,h⟩
  obtain ⟨i,hi,rfl⟩:=List.getElem_of_mem hx
  exact ⟨i,hi,by rw [dV hi];exact h⟩
 ·rintro ⟨i,hi,h⟩
  exact ⟨_,jL hi,h⟩
theorem Zd (l:List eU) (c:Int):kD l 0 c=false:=by simp [kD]
theorem Ze {l:List eU} {k:Nat} (h:k<l.length) (c:Int):kD l (k+1) c=(kD l k c || Bd (ix l k) c):=by
 unfold kD;rw [bD h,List.any_append];simp
theorem su {a:eU} : wu a=false↔a.length≤24∧∀ i,i<a.length→(ix a i).length≤24:=by
 unfold wu
 rw [Bool.or_eq_false_iff,decide_eq_false_iff_not,List.any_eq_false]
 constructor
 ·rintro ⟨h1,h2⟩
  exact ⟨by omega,fun i hi=>by have:=h2 _ (jL hi);simp at this;omega⟩
 ·rintro ⟨h1,h2⟩
  refine ⟨by omega,fun x hx=>?_⟩
  obtain ⟨i,hi,rfl⟩:=List.getElem_of_mem hx
  have:=h2 i hi;rw [dV hi] at this;simp;omega
def gZ (l:List nR) (d k:Nat):List Lg:=((l.take d).flatMap fun x=>x.l) ++ (ix l d).l.take k
def qL (s:List Lg) (x:Lg):Bool:=s.any fun y=>y.e == x.e && y.k == x.k
def holdL (l:List oU) (x:Lg):Int:=(ix (ix l x.e.toNat).c x.k.toNat).h
def lN (g:iy) (d k:Nat):Int :=
 let x:=ix (ix g.d d).l k
 if x.e<0∨(g.e.length:Int)≤x.e∨x.k<0∨((ix g.e x.e.toNat).c.length:Int)≤x.k then 1
 else if qL (gZ g.d d k) x=true then 20
 else if holdL g.e x≠holdL g.e (ix (ix g.d d).l 0) then 19 else 0
def sZ (g:iy) (d:Nat):Int :=
 if 8<(ix g.d d).l.length then 2 else if sg (ix g.d d).w.q<0 then 7 else kM (lN g d) (ix g.d d).l.length
def kN (g:iy) (i k:Nat):Int:=if (g.e.length:Int)≤(ix (ix g.e i).c k).h∨(ix (ix g.e i).c k).h=(i:Int) then 19 else 0
def oK (g:iy):Int :=
 if 8<g.e.length∨16<g.d.length then 2
 else if kM (fun i=>jU (ix g.e i)) g.e.length≠0 then kM (fun i=>jU (ix g.e i)) g.e.length
 else if kM (fun i=>kM (kN g i) (ix g.e i).c.length) g.e.length≠0 then kM (fun i=>kM (kN g i) (ix g.e i).c.length) g.e.length
 else kM (sZ g) g.d.length
structure ach (k:Nat) (e:oU):Prop where
 m:e.m.fits k
 c : ∀ i,i<e.c.length→(ix e.c i).a.fits k
 a : ∀ i j l,i<e.a.length→j<(ix e.a i).length→l<(ix (ix e.a i) j).length→(ix (ix (ix e.a i) j) l).a.fits k
 lc:e.c.length≤140737488351232
 la:e.a.length≤140737488351232
 lt : ∀ i,i<e.a.length→(ix e.a i).length≤140737488351232
 lp : ∀ i j,i<e.a.length→j<(ix e.a i).length→(ix (ix e.a i) j).length≤140737488351232
structure tq (k:Nat) (g:iy):Prop where
 e : ∀ i,i<g.e.length→ach k (ix g.e i)
 w : ∀ i,i<g.d.length→(ix g.d i).w.fits k
 le:g.e.length≤140737488351232
 ld:g.d.length≤140737488351232
 ll : ∀ i,i<g.d.length→(ix g.d i).l.length≤140737488351232
end Go.Proofs.Ins
namespace Go.Proofs.Xe
open Go.RowKit Go.Proofs.Ins
def dw (p:Nat→Prop) (h:Tr Bk) (e:Nat) (v:B) (n:Nat) (G:Nat→List B):Prop :=
 (n=0∧v = .aW)∨∃ b o c,v = .sl b o n c∧(0<n→p b)∧∀ i,i<n→ld h b (o+i*e) e true=some (.agg (G i))
section
variable {p q:Nat→Prop} {h h' : Tr Bk} {e n:Nat} {v:B} {G:Nat→List B}
theorem dw.hl (hl:dw p h e v n G):HL h e v n G:=by
 rcases hl with h|⟨b,o,c,h1,h2,h3⟩
 ·exact .inl h
 ·exact .inr ⟨b,o,c,h1,h3⟩
theorem dw.len (hl:dw p h e v n G):lenV (.c v)=some (.c (.int .i64 (.ofNat n))):=hl.hl.len
theorem dw.kn (hl:dw p h e v n G):v.kn=true:=hl.hl.kn
theorem dw.pos (hl:dw p h e v n G) (hn:0<n) : ∃ b o c,v = .sl b o n c∧p b∧∀ i,i<n→ld h b (o+i*e) e true=some (.agg (G i)):=by
 rcases hl with ⟨rfl,-⟩|⟨b,o,c,h1,h2,h3⟩
 ·omega
 ·exact ⟨b,o,c,h1,h2 hn,h3⟩
theorem dw.keep (hl:dw p h e v n G) (hk : ∀ b,p b→h' b=h b) (hp : ∀ b,p b→q b):dw q h' e v n G:=by
 rcases hl with h1|⟨b,o,c,h1,h2,h3⟩
 ·exact .inl h1
 ·refine .inr ⟨b,o,c,h1,fun h=>hp _ (h2 h),fun i hi=>?_⟩
  have:=h3 i hi
  unfold ld at this ⊢
  rw [hk b (h2 (by omega))];exact this
theorem dw.congr {G' : Nat→List B} (hl:dw p h e v n G) (hg : ∀ i,i<n→G i=G' i):dw p h e v n G':=by
 rcases hl with h1|⟨b,o,c,h1,h2,h3⟩
 ·exact .inl h1
 ·exact .inr ⟨b,o,c,h1,h2,fun i hi=>by rw [← hg i hi];exact h3 i hi⟩
theorem dw.uniq {n' : Nat} {G' : Nat→List B} {p' : Nat→Prop} (hl:dw p h e v n G) (hl' : dw p' h e v n' G'):n=n'∧∀ i,i<n→G i=G' i:=by
 rcases hl with ⟨rfl,rfl⟩|⟨b,o,c,rfl,h2,h3⟩
 ·rcases hl' with ⟨rfl,-⟩|⟨b,o,c,h1,-⟩
  ·exact ⟨rfl,fun i hi=>by omega⟩
  ·cases h1
 ·rcases hl' with ⟨-,h1⟩|⟨b',o',c',h1,h2',h3'⟩
  ·cases h1
  ·cases h1
   refine ⟨rfl,fun i hi=>?_⟩
   have a:=h3 i hi
   rw [h3' i hi] at a
   exact (V.agg.inj (Option.some.inj a)).symm
end
def r3B (r:R3):List B:=[.bool r.n,.str r.s,.str r.d]
def c5B (x:C5):List B:=[.int .i64 x.h,.int .i64 x.r,.bool x.a.n,.str x.a.s,.str x.a.d]
def Ip (x:vZ):List B:=[.int .i64 x.k,.bool x.b,.bool x.a.n,.str x.a.s,.str x.a.d]
def JC (x:Ins.Lg):List B:=[.int .i64 x.e,.int .i64 x.k]
def nS (p:Nat→Prop) (h:Tr Bk) (v:B) (l:List C5):Prop:=dw p h 5 v l.length fun i=>c5B (ix l i)
def zD (p:Nat→Prop) (h:Tr Bk) (v:B) (l:List vZ):Prop:=dw p h 5 v l.length fun i=>Ip (ix l i)
def Bf (p:Nat→Prop) (h:Tr Bk) (v:B) (l:List Ins.Lg):Prop:=dw p h 2 v l.length fun i=>JC (ix l i)
def fE (p:Nat→Prop) (h:Tr Bk) (v:B) (l:eU):Prop:=∃ T:Nat→B,dw p h 1 v l.length (fun i=>[T i])∧∀ i,i<l.length→zD p h (T i) (ix l i)
def gu (p:Nat→Prop) (h:Tr Bk) (v:B) (l:List eU):Prop:=∃ T:Nat→B,dw p h 1 v l.length (fun i=>[T i])∧∀ i,i<l.length→fE p h (T i) (ix l i)
def oV (p:Nat→Prop) (h:Tr Bk) (v:B) (l:List oU):Prop:=∃ C A:Nat→B,dw p h 5 v l.length (fun i=>[.bool (ix l i).m.n,.str (ix l i).m.s,.str (ix l i).m.d,C i,A i])∧∀ i,i<l.length→nS p h (C i) (ix l i).c∧gu p h (A i) (ix l i).a
def iE (p:Nat→Prop) (h:Tr Bk) (v:B) (l:List nR):Prop:=∃ L:Nat→B,dw p h 4 v l.length (fun i=>[.bool (ix l i).w.n,.str (ix l i).w.s,.str (ix l i).w.d,L i])∧∀ i,i<l.length→Bf p h (L i) (ix l i).l
structure oL (p:Nat→Prop) (h:Tr Bk) (ev dv:B) (g:iy):Prop where
 e:oV p h ev g.e
 d:iE p h dv g.d
section
variable {p q p' : Nat→Prop} {h h' : Tr Bk} {v ev dv:B}
theorem fE.keep {l:eU} (hl:fE p h v l) (hk : ∀ b,p b→h' b=h b) (hp : ∀ b,p b→q b):fE q h' v l:=by
 obtain ⟨T,h1,h2⟩:=hl
 exact ⟨T,h1.keep hk hp,fun i hi=>(h2 i hi).keep hk hp⟩
theorem gu.keep {l:List eU} (hl:gu p h v l) (hk : ∀ b,p b→h' b=h b) (hp : ∀ b,p b→q b):gu q h' v l:=by
 obtain ⟨T,h1,h2⟩:=hl
 exact ⟨T,h1.keep hk hp,fun i hi=>(h2 i hi).keep hk hp⟩
theorem oV.keep {l:List oU} (hl:oV p h v l) (hk : ∀ b,p b→h' b=h b) (hp : ∀ b,p b→q b):oV q h' v l:=by
 obtain ⟨C,A,h1,h2⟩:=hl
 exact ⟨C,A,h1.keep hk hp,fun i hi=>⟨(h2 i hi).1.keep hk hp,(h2 i hi).2.keep hk hp⟩⟩
theorem iE.keep {l:List nR} (hl:iE p h v l) (hk : ∀ b,p b→h' b=h b) (hp : ∀ b,p b→q b):iE q h' v l:=by
 obtain ⟨L,h1,h2⟩:=hl
 exact ⟨L,h1.keep hk hp,fun i hi=>(h2 i hi).keep hk hp⟩
theorem oL.keep {g:iy} (hg:oL p h ev dv g) (hk : ∀ b,p b→h' b=h b) (hp : ∀ b,p b→q b):oL q h' ev dv g:=⟨hg.e.keep hk hp,hg.d.keep hk hp⟩
theorem qM {α:Type} [Inhabited α] {l l' : List α} (hn:l.length=l'.length) (h : ∀ i,i<l.length→ix l i=ix l' i):l=l':=by
 apply List.ext_getElem hn
 intro i h1 h2
 have:=h i h1
 rw [dV h1,dV h2] at this
 exact this
theorem nS.uniq {l l' : List C5} (hl:nS p h v l) (hl' : nS p' h v l'):l=l':=by
 obtain ⟨h1,h2⟩:=dw.uniq hl hl'
 refine qM h1 fun i hi=>?_
 have e:=h2 i hi
 generalize ix l i=x at *
 generalize ix l' i=y at *
 obtain ⟨x1,x2,x3,x4,x5⟩:=x
 obtain ⟨y1,y2,y3,y4,y5⟩:=y
 simp [c5B] at e
 obtain ⟨rfl,rfl,rfl,rfl,rfl⟩:=e
 rfl
theorem zD.uniq {l l' : List vZ} (hl:zD p h v l) (hl' : zD p' h v l'):l=l':=by
 obtain ⟨h1,h2⟩:=dw.uniq hl hl'
 refine qM h1 fun i hi=>?_
 have e:=h2 i hi
 generalize ix l i=x at *
 generalize ix l' i=y at *
 obtain ⟨x1,x2,x3,x4,x5⟩:=x
 obtain ⟨y1,y2,y3,y4,y5⟩:=y
 simp [Ip] at e
 obtain ⟨rfl,rfl,rfl,rfl,rfl⟩:=e
 rfl
theorem Bf.uniq {l l' : List Ins.Lg} (hl:Bf p h v l) (hl' : Bf p' h v l'):l=l':=by
 obtain ⟨h1,h2⟩:=dw.uniq hl hl'
 refine qM h1 fun i hi=>?_
 have e:=h2 i hi
 generalize ix l i=x at *
 generalize ix l' i=y at *
 obtain ⟨x1,x2⟩:=x
 obtain ⟨y1,y2⟩:=y
 simp [JC] at e
 obtain ⟨rfl,rfl⟩:=e
 rfl
theorem fE.uniq {l l' : eU} (hl:fE p h v l) (hl' : fE p' h v l'):l=l':=by
 obtain ⟨T,h1,h2⟩:=hl
 obtain ⟨T',h1',h2'⟩:=hl'
 obtain ⟨e1,e2⟩:=h1.uniq h1'
 refine qM e1 fun i hi=>?_
 have e:=e2 i hi
 simp only [List.cons.injEq,and_true] at e
 have a:=h2 i hi
 rw [e] at a
 exact a.uniq (h2' i (by omega))
theorem gu.uniq {l l' : List eU} (hl:gu p h v l) (hl' : gu p' h v l'):l=l':=by
 obtain ⟨T,h1,h2⟩:=hl
 obtain ⟨T',h1',h2'⟩:=hl'
 obtain ⟨e1,e2⟩:=h1.uniq h1'
 refine qM e1 fun i hi=>?_
 have e:=e2 i hi
 simp only [List.cons.injEq,and_true] at e
 have a:=h2 i hi
 rw [e] at a
 exact a.uniq (h2' i (by omega))
theorem oV.uniq {l l' : List oU} (hl:oV p h v l) (hl' : oV p' h v l'):l=l':=by
 obtain ⟨C,A,h1,h2⟩:=hl
 obtain ⟨C',A',h1',h2'⟩:=hl'
 obtain ⟨e1,e2⟩:=h1.uniq h1'
 refine qM e1 fun i hi=>?_
 have e:=e2 i hi
 have a:=h2 i hi
 have a':=h2' i (by omega)
 simp only [List.cons.injEq,and_true,B.bool.injEq,B.str.injEq] at e
 obtain ⟨f1,f2,f3,f4,f5⟩:=e
 rw [f4,f5] at a
 have g1:=a.1.uniq a'.1
 have g2:=a.2.uniq a'.2
 clear h1 h2 h1' h2' e2
 generalize ix l i=x at *
 generalize ix l' i=y at *
 obtain ⟨⟨x1,x2,x3⟩,x4,x5⟩:=x
 obtain ⟨⟨y1,y2,y3⟩,y4,y5⟩:=y
 simp_all
theorem iE.uniq {l l' : List nR} (hl:iE p h v l) (hl' : iE p' h v l'):l=l':=by
 obtain ⟨L,h1,h2⟩:=hl
 obtain ⟨L',h1',h2'⟩:=hl'
 obtain ⟨e1,e2⟩:=h1.uniq h1'
 refine qM e1 fun i hi=>?_
 have e:=e2 i hi
 have a:=h2 i hi
 have a':=h2' i (by omega)
 simp only [List.cons.injEq,and_true,B.bool.injEq,B.str.injEq] at e
 obtain ⟨f1,f2,f3,f4⟩:=e
 rw [f4] at a
 have g1:=a.uniq a'
 clear h1 h2 h1' h2' e2
 generalize ix l i=x at *
 generalize ix l' i=y at *
 obtain ⟨⟨x1,x2,x3⟩,x4⟩:=x
 obtain ⟨⟨y1,y2,y3⟩,y4⟩:=y
 simp_all
theorem oL.uniq {g g' : iy} (hl:oL p h ev dv g) (hl' : oL p' h ev dv g'):g=g':=by
 have h1:=hl.e.uniq hl'.e
 have h2:=hl.d.uniq hl'.d
 obtain ⟨a,b⟩:=g
 obtain ⟨c,d⟩:=g'
 simp_all
end
/-! ### What it says of a world -/
section
variable {N:Nat} {w0 w:World} {φ:Ph} {σ:St} {p:Nat→Prop}
theorem choose_lt' {α:Type} [Inhabited α] {n:Nat} {P:Nat→α→Prop} (h : ∀ i,i<n→∃ a,P i a) : ∃ f:Nat→α,∀ i,i<n→P i (f i) :=
 ⟨fun i=>if hi:i<n then Classical.choose (h i hi) else default,fun i hi=>by dsimp only;rw [dif_pos hi];exact Classical.choose_spec (h i hi)⟩
def InW (w:World) (b:Nat):Prop:=b<w.heap.size
theorem amP (hR:Rel N w0 φ σ w) {b o e:Nat} {c:List B} {P:Nat×Nat} (hp:φ b=some P) (hl:ld σ.h b o e true=some (.agg c)) : ∃ xs,jJ φ c xs∧xs.length=e∧∀ j,j<e→w.cell? ⟨P.1,o+j,none⟩=xs[j]?:=by
 unfold ld at hl
 cases hk:σ.h b with
 | none=>rw [hk] at hl;cases hl
 | some k =>
  rw [hk] at hl
  dsimp only at hl
  cases hr:k.rd with
  | false=>rw [hr] at hl;cases hl
  | true =>
   rw [hr] at hl
   simp only [cond_true] at hl
   unfold wV at hl
   dsimp only at hl
   cases hx:(Nat.beq ((k.cells.drop o).take e).length e && ((k.cells.drop o).take e).all B.kn) with
   | false=>rw [hx] at hl;cases hl
   | true =>
    rw [hx] at hl
    cases hl
    rw [Bool.and_eq_true] at hx
    have hle:=Nat.eq_of_beq_eq_true hx.1
    obtain ⟨xs,h1,h2⟩:=hR.reads (k:=k) hk hr hp ((k.cells.drop o).take e) o (fun j x hj=>by
     rw [List.getElem?_take] at hj
     split at hj
     ·rwa [List.getElem?_drop] at hj
     ·cases hj) hx.2
    have hlx:xs.length=e:=by rw [← h1.length,hle]
    refine ⟨xs,h1,hlx,fun j hj=>?_⟩
    rw [List.getElem?_eq_getElem (by omega)]
    exact h2 j _ (List.getElem?_eq_getElem _)
theorem dw.un (hR:Rel N w0 φ σ w) {e n:Nat} {v:B} {G:Nat→List B} {cv:Value} (hl:dw p σ.h e v n G) (hv:RB φ v cv) :
  ∃ F:Nat→List Value,Sl w (InW w) e cv n F∧∀ i,i<n→jJ φ (G i) (F i):=by
 rcases hl with ⟨rfl,rfl⟩|⟨b,o,c,rfl,-,h3⟩
 ·have:cv = .slice none 0 0:=hv
  subst this
  exact ⟨fun _=>[],Sl.nil _ _ _ _,fun i hi=>by omega⟩
 ·rcases hv with ⟨P,K,hp,rfl,hnK,hK,-⟩|⟨rfl,rfl,a,K,rfl,hK⟩
  ·obtain ⟨F,hF⟩:=choose_lt' (n:=n) (P:=fun i (xs:List Value)=>jJ φ (G i) xs∧xs.length=e∧∀ j,j<e→w.cell? ⟨P.1,o+i*e+j,none⟩=xs[j]?) (fun i hi=>amP hR hp (h3 i hi))
   refine ⟨F,⟨_,K,rfl,hnK,hK,?_,fun i hi=>(hF i hi).2.1⟩,fun i hi=>(hF i hi).1⟩
   exact .inr ⟨_,_,rfl,hR.lo _ _ hp,hR.lo _ _ hp,fun i j hi hj=>(hF i hi).2.2 j hj⟩
  ·exact ⟨fun _=>[],⟨_,K,rfl,Nat.zero_le _,hK,.inl rfl,fun i hi=>by omega⟩,fun i hi=>by omega⟩
theorem jJ.one {x:B} {r:List Value} (h:jJ φ [x] r) : ∃ v,r=[v]∧RB φ x v:=by
 match r,h with
 | [v],h=>exact ⟨v,rfl,h.1⟩
theorem nS.un (hR:Rel N w0 φ σ w) {l:List C5} {v:B} {cv:Value} (hl:nS p σ.h v l) (hv:RB φ v cv):mg w (InW w) cv l:=by
 obtain ⟨F,h1,h2⟩:=dw.un hR hl hv
 refine ⟨F,h1,fun i hi=>?_⟩
 have:=h2 i hi
 unfold c5B at this
 match F i,this with
 | [a,b,c,d,e],⟨ha,hb,hc,hd,he,_⟩ =>
  have ha:a=_:=ha
  have hb:b=_:=hb
  have hc:c=_:=hc
  have hd:d=_:=hd
  have he:e=_:=he
  subst ha hb hc hd he
  rfl
theorem zD.un (hR:Rel N w0 φ σ w) {l:List vZ} {v:B} {cv:Value} (hl:zD p σ.h v l) (hv:RB φ v cv):xH w (InW w) cv l:=by
 obtain ⟨F,h1,h2⟩:=dw.un hR hl hv
 refine ⟨F,h1,fun i hi=>?_⟩
 have:=h2 i hi
 unfold Ip at this
 match F i,this with
 | [a,b,c,d,e],⟨ha,hb,hc,hd,he,_⟩ =>
  have ha:a=_:=ha
  have hb:b=_:=hb
  have hc:c=_:=hc
  have hd:d=_:=hd
  have he:e=_:=he
  subst ha hb hc hd he
  rfl
theorem Bf.un (hR:Rel N w0 φ σ w) {l:List Ins.Lg} {v:B} {cv:Value} (hl:Bf p σ.h v l) (hv:RB φ v cv):xI w (InW w) cv l:=by
 obtain ⟨F,h1,h2⟩:=dw.un hR hl hv
 refine ⟨F,h1,fun i hi=>?_⟩
 have:=h2 i hi
 unfold JC at this
 match F i,this with
 | [a,b],⟨ha,hb,_⟩ =>
  have ha:a=_:=ha
  have hb:b=_:=hb
  subst ha hb
  rfl
theorem fE.un (hR:Rel N w0 φ σ w) {l:eU} {v:B} {cv:Value} (hl:fE p σ.h v l) (hv:RB φ v cv):jM w (InW w) cv l:=by
 obtain ⟨T,h0,h3⟩:=hl
 obtain ⟨F,h1,h2⟩:=dw.un hR h0 hv
 refine ⟨F,h1,fun i hi=>?_⟩
 obtain ⟨u,e,hu⟩:=(h2 i hi).one
 exact ⟨u,e,(h3 i hi).un hR hu⟩
theorem gu.un (hR:Rel N w0 φ σ w) {l:List eU} {v:B} {cv:Value} (hl:gu p σ.h v l) (hv:RB φ v cv):xJ w (InW w) cv l:=by
 obtain ⟨T,h0,h3⟩:=hl
 obtain ⟨F,h1,h2⟩:=dw.un hR h0 hv
 refine ⟨F,h1,fun i hi=>?_⟩
 obtain ⟨u,e,hu⟩:=(h2 i hi).one
 exact ⟨u,e,(h3 i hi).un hR hu⟩
theorem oV.un (hR:Rel N w0 φ σ w) {l:List oU} {v:B} {cv:Value} (hl:oV p σ.h v l) (hv:RB φ v cv):Ql w (InW w) cv l:=by
 obtain ⟨C,A,h0,h3⟩:=hl
 obtain ⟨F,h1,h2⟩:=dw.un hR h0 hv
 refine ⟨F,h1,fun i hi=>?_⟩
 have:=h2 i hi
 have h4:=h3 i hi
 match hF:F i,this with
 | [a,b,c,d,e],⟨ha,hb,hc,hd,he,_⟩ =>
  have ha:a=_:=ha
  have hb:b=_:=hb
  have hc:c=_:=hc
  subst ha hb hc
  exact ⟨d,e,rfl,h4.1.un hR hd,h4.2.un hR he⟩
theorem iE.un (hR:Rel N w0 φ σ w) {l:List nR} {v:B} {cv:Value} (hl:iE p σ.h v l) (hv:RB φ v cv):Qm w (InW w) cv l:=by
 obtain ⟨L,h0,h3⟩:=hl
 obtain ⟨F,h1,h2⟩:=dw.un hR h0 hv
 refine ⟨F,h1,fun i hi=>?_⟩
 have:=h2 i hi
 have h4:=h3 i hi
 match hF:F i,this with
 | [a,b,c,d],⟨ha,hb,hc,hd,_⟩ =>
  have ha:a=_:=ha
  have hb:b=_:=hb
  have hc:c=_:=hc
  subst ha hb hc
  exact ⟨d,rfl,h4.un hR hd⟩
theorem oL.un (hR:Rel N w0 φ σ w) {g:iy} {ev dv:B} {cv:Value} (hg:oL p σ.h ev dv g) (hv:RV φ (.agg [ev,dv]) cv):Ez w (InW w) cv g:=by
 obtain ⟨r,rfl,hr⟩:=hv
 obtain ⟨l⟩:=r
 match l,hr with
 | [a,b],⟨ha,hb,_⟩=>exact ⟨a,b,rfl,hg.e.un hR ha,hg.d.un hR hb⟩
end
noncomputable section
open Classical in
def aci (args:List V) (σ:St):Option (V×St):=match args with
 | [.agg [ev,dv]]=>if h : ∃ g,oL (fun _=>True) σ.h ev dv g∧tq 134217728 g then some (.c (.int .i64 (oK (Classical.choose h))),σ) else none
 | _=>none
end
theorem af4 {p:Nat→Prop} {σ:St} {ev dv:B} {g:iy} (hg:oL p σ.h ev dv g) (hs:tq 134217728 g):aci [.agg [ev,dv]] σ=some (.c (.int .i64 (oK g)),σ):=by
 have h : ∃ g,oL (fun _=>True) σ.h ev dv g∧tq 134217728 g:=⟨g,hg.keep (fun _ _=>rfl) fun _ _=>trivial,hs⟩
 unfold aci
 dsimp only
 rw [dif_pos h,(Classical.choose_spec h).1.uniq hg]
theorem acj {args:List V} {σ σ' : St} {v:V} (h:aci args σ=some (v,σ')):σ' = σ∧∃ ev dv g,args=[.agg [ev,dv]]∧v = .c (.int .i64 (oK g))∧oL (fun _=>True) σ.h ev dv g∧tq 134217728 g:=by
 unfold aci at h
 split at h
 ·next ev dv =>
  split at h
  ·next hx=>cases h;exact ⟨rfl,ev,dv,_,rfl,rfl,Classical.choose_spec hx⟩
  ·cases h
 ·cases h
end Go.Proofs.Xe
namespace Go.Proofs.Ins
open Go.RowKit
def V8.v (v:V8):Value:=.agg #[.int .i64 v.p,.bool v.a.n,.string v.a.s,.string v.a.d,.bool v.k.n,.string v.k.s,.string v.k.d,.bool v.x]
def V8.fits (v:V8) (k:Nat):Prop:=v.a.fits k∧v.k.fits k
theorem EW (r:R3) (w:World) (h:r.fits 268435456) :
  Calls Tryz.prog 12 #[.agg #[.bool r.n,.string r.s,.string r.d]] w fun e w'=>e = .returned (.int .i64 (sg r.q))∧Below w.heap.size w w':=Gz r.n r.s r.d w h.1 h.2
def NM (p:Nat→Bool) (n:Nat):Bool:=(List.range n).any p
theorem Iq {p:Nat→Bool} {n:Nat} (h : ∀ i,i<n→p i=false):NM p n=false:=by
 unfold NM;rw [List.any_eq_false];intro x hx;rw [h x (by simpa using hx)];simp
theorem KT {p:Nat→Bool} {n i:Nat} (hi:i<n) (h:p i=true):NM p n=true:=by
 unfold NM;rw [List.any_eq_true];exact ⟨i,by simpa using hi,h⟩
def amQ (w:World) (b:Bool) (e:Ending) (w' : World):Prop:=∃ i:Int,e = .returned (.int .i64 i)∧decide (0≤i)=b∧Below w.heap.size w w'

theorem mD {p:Nat→Prop} {k:Nat} (h : ∀ i,i<k→p i) (h2:p k) : ∀ i,i<k+1→p i:=fun i hi=>by
 by_cases e:i=k
 ·rw [e];exact h2
 ·exact h i (by omega)
theorem Sl.cellAt {w w' : World} {p:Nat→Prop} {sz n:Nat} {a:Option Addr} {cap:Nat} {G:Nat→List Value} (h:Sl w p sz (.slice a n cap) n G) {b off:Nat} (ha:a=some ⟨b,off,none⟩) (k:Below w.heap.size w w') {i j:Nat} (hi:i<n) (hj:j<sz) :
  w'.cell? ⟨b,off+i*sz+j,none⟩=(G i)[j]?:=by
 obtain ⟨b',off',ha',-,hl,hr⟩:=h.get (by omega)
 rw [ha] at ha'
 simp only [Option.some.injEq,Addr.mk.injEq,and_true] at ha'
 obtain ⟨rfl,rfl⟩:=ha'
 exact (hr.below k hl) i j hi hj
end Go.Proofs.Ins
