/- The walks of iI.member, earlier. -/
import Derived.Test.YtjonjhcaniinaaaGreatDoorZ19
set_option linter.all false
set_option maxRecDepth 100000
namespace Go.Proofs.Ins
open Go.RowKit
theorem duo (w:World) (vs us:Array Value) (T U:TypeId):bY ((w.alloc (.cells vs T)).alloc (.cells us U)) w.heap.size vs∧bY ((w.alloc (.cells vs T)).alloc (.cells us U)) (w.heap.size+1) us∧Below w.heap.size w ((w.alloc (.cells vs T)).alloc (.cells us U)):=by
 refine ⟨(bY.new w vs T).alloc _,?_,((Below.refl _ _).alloc jp _).alloc kc _⟩
 have:=bY.new (w.alloc (.cells vs T)) us U
 rwa [World.size_alloc] at this
def ix {α:Type} [Inhabited α] (l:List α) (i:Nat):α:=l.getD i default
theorem dZ {α:Type} [Inhabited α] {l:List α} {i:Nat} (h:i<l.length):ix l i=l[i]:=by unfold ix;simp [List.getD,h]
theorem NY {α:Type} [Inhabited α] (l:List α) (x:α) (i:Nat):ix (l ++ [x]) i=if i<l.length then ix l i else if i=l.length then x else default:=by
 unfold ix
 by_cases h:i<l.length
 ·simp [List.getD,h,List.getElem?_append_left h]
 ·rw [if_neg h]
  by_cases e:i=l.length
  ·subst e;simp
  ·rw [if_neg e];simp [List.getD,List.getElem?_append_right (Nat.le_of_not_lt h)]
   rw [List.getElem?_eq_none];rfl
   simp;omega
theorem jQ {α:Type} [Inhabited α] {l:List α} {i:Nat} (h:i<l.length):ix l i∈l:=by rw [dZ h];exact List.getElem_mem h
theorem Qa {α:Type} [Inhabited α] {l:List α} {i k:Nat} (h:i<k):ix (l.take k) i=ix l i:=by unfold ix;simp [List.getD,List.getElem?_take,h]
theorem aZ {α:Type} [Inhabited α] {l:List α} {k:Nat} (h:k<l.length):l.take (k+1)=l.take k ++ [ix l k]:=by
 rw [dZ h,List.take_add_one];simp [h]
structure C5 where
 h:Int
 r:Int
 a:R3
instance:Inhabited C5:=⟨⟨0,0,default⟩⟩
def C5.c (x:C5):List Value:=[.int .i64 x.h,.int .i64 x.r,.bool x.a.n,.string x.a.s,.string x.a.d]
structure x9 where
 k:Int
 b:Bool
 a:R3
instance:Inhabited x9:=⟨⟨0,false,default⟩⟩
def x9.c (x:x9):List Value:=[.int .i64 x.k,.bool x.b,.bool x.a.n,.string x.a.s,.string x.a.d]
structure Lg where
 e:Int
 k:Int
instance:Inhabited Lg:=⟨⟨0,0⟩⟩
def Lg.c (x:Lg):List Value:=[.int .i64 x.e,.int .i64 x.k]
abbrev ET:=List x9
abbrev fK:=List ET
structure qN where
 m:R3
 c:List C5
 a:List fK
instance:Inhabited qN:=⟨⟨default,[],[]⟩⟩
structure oV where
 w:R3
 l:List Lg
instance:Inhabited oV:=⟨⟨default,[]⟩⟩
structure gK where
 e:List qN
 d:List oV
instance:Inhabited gK:=⟨⟨[],[]⟩⟩
def Sl (w:World) (p:Nat→Prop) (sz:Nat) (v:Value) (n:Nat) (G:Nat→List Value):Prop :=
 ∃ a cap,v = .slice a n cap∧n≤cap∧cap≤9223372036854775807∧(n=0∨∃ b off,a=some ⟨b,off,none⟩∧p b∧b<w.heap.size∧wW w b off sz n G)∧∀ i,i<n→(G i).length=sz
theorem Sl.nil (w:World) (p:Nat→Prop) (sz:Nat) (G:Nat→List Value):Sl w p sz (.slice none 0 0) 0 G:=⟨none,0,rfl,jp,jb,.inl rfl,fun i hi=>jb⟩
theorem Sl.mono {w:World} {p q:Nat→Prop} {sz:Nat} {v:Value} {n:Nat} {G:Nat→List Value} (h:Sl w p sz v n G) (hp : ∀ b,p b→q b):Sl w q sz v n G:=by
 obtain ⟨a,cap,hv,h1,h2,h3,h4⟩:=h
 refine ⟨a,cap,hv,h1,h2,?_,h4⟩
 rcases h3 with h3|⟨b,off,ha,hb,r⟩
 ·exact .inl h3
 ·exact .inr ⟨b,off,ha,hp b hb,r⟩
theorem Sl.keep {w w' : World} {p:Nat→Prop} {sz:Nat} {v:Value} {n:Nat} {G:Nat→List Value} (h:Sl w p sz v n G) (hb : ∀ b,p b→b<w.heap.size→w'.heap[b]?=w.heap[b]?):Sl w' p sz v n G:=by
 obtain ⟨a,cap,hv,h1,h2,h3,h4⟩:=h
 refine ⟨a,cap,hv,h1,h2,?_,h4⟩
 rcases h3 with h3|⟨b,off,ha,hpb,hl,r⟩
 ·exact .inl h3
 ·have e:=hb b hpb hl
  refine .inr ⟨b,off,ha,hpb,?_,fun i j hi hj=>?_⟩
  ·by_cases hlt:b<w'.heap.size
   ·exact hlt
   ·rw [Array.getElem?_eq_none jb,Array.getElem?_eq_getElem hl] at e;cases e
  ·rw [World.cell?_of_block (w:=w) (a:=⟨b,off+i*sz+j,none⟩) e];exact r i j hi hj
theorem Sl.congr {w:World} {p:Nat→Prop} {sz:Nat} {v:Value} {n:Nat} {G G' : Nat→List Value} (h:Sl w p sz v n G) (hg : ∀ i,i<n→G i=G' i):Sl w p sz v n G':=by
 obtain ⟨a,cap,hv,h1,h2,h3,h4⟩:=h
 refine ⟨a,cap,hv,h1,h2,?_,fun i hi=>by rw [← hg i hi];exact h4 i hi⟩
 rcases h3 with h3|⟨b,off,ha,hpb,hl,r⟩
 ·exact .inl h3
 ·exact .inr ⟨b,off,ha,hpb,hl,fun i j hi hj=>by rw [← hg i hi];exact r i j hi hj⟩
def RL {α:Type} [Inhabited α] (w:World) (p:Nat→Prop) (sz:Nat) (Q:List Value→α→Prop) (v:Value) (l:List α):Prop :=
 ∃ G,Sl w p sz v l.length G∧∀ i,i<l.length→Q (G i) (ix l i)
theorem RL.imp {α:Type} [Inhabited α] {w w' : World} {p q:Nat→Prop} {sz:Nat} {Q Q' : List Value→α→Prop} {v:Value} {l:List α} (h:RL w p sz Q v l) (hp : ∀ b,p b→q b)
  (hb : ∀ b,p b→b<w.heap.size→w'.heap[b]?=w.heap[b]?) (hQ : ∀ c x,Q c x→Q' c x):RL w' q sz Q' v l:=by
 obtain ⟨G,h1,h2⟩:=h
 exact ⟨G,(h1.keep hb).mono hp,fun i hi=>hQ _ _ (h2 i hi)⟩
def QV {α:Type} (c:α→List Value) (cs:List Value) (x:α):Prop:=cs=c x
theorem RL.plain {α:Type} [Inhabited α] {w:World} {p:Nat→Prop} {sz:Nat} {c:α→List Value} {v:Value} {l:List α} (h:RL w p sz (QV c) v l):Sl w p sz v l.length (fun i=>c (ix l i)):=by
 obtain ⟨G,h1,h2⟩:=h
 exact h1.congr h2
def yY (w:World) (p:Nat→Prop) (v:Value) (l:List x9):Prop:=RL w p 5 (QV x9.c) v l
def nY (w:World) (p:Nat→Prop) (v:Value) (l:List C5):Prop:=RL w p 5 (QV C5.c) v l
def yZ (w:World) (p:Nat→Prop) (v:Value) (l:List Lg):Prop:=RL w p 2 (QV Lg.c) v l
def YX (w:World) (p:Nat→Prop) (cs:List Value) (t:ET):Prop:=∃ v,cs=[v]∧yY w p v t
def kT (w:World) (p:Nat→Prop) (v:Value) (l:fK):Prop:=RL w p 1 (YX w p) v l
def aiE (w:World) (p:Nat→Prop) (cs:List Value) (a:fK):Prop:=∃ v,cs=[v]∧kT w p v a
def y7 (w:World) (p:Nat→Prop) (v:Value) (l:List fK):Prop:=RL w p 1 (aiE w p) v l
def aiF (w:World) (p:Nat→Prop) (cs:List Value) (e:qN):Prop:=∃ cv av,cs=[.bool e.m.n,.string e.m.s,.string e.m.d,cv,av]∧nY w p cv e.c∧y7 w p av e.a
def Uf (w:World) (p:Nat→Prop) (v:Value) (l:List qN):Prop:=RL w p 5 (aiF w p) v l
def aiG (w:World) (p:Nat→Prop) (cs:List Value) (d:oV):Prop:=∃ lv,cs=[.bool d.w.n,.string d.w.s,.string d.w.d,lv]∧yZ w p lv d.l
def Ug (w:World) (p:Nat→Prop) (v:Value) (l:List oV):Prop:=RL w p 4 (aiG w p) v l
def Gw (w:World) (p:Nat→Prop) (v:Value) (g:gK):Prop:=∃ ev dv,v = .agg #[ev,dv]∧Uf w p ev g.e∧Ug w p dv g.d
structure Keeps (p:Nat→Prop) (w w' : World):Prop where
 block : ∀ b,p b→b<w.heap.size→w'.heap[b]?=w.heap[b]?
theorem Keeps.of_below {p:Nat→Prop} {w w' : World} (h:Below w.heap.size w w'):Keeps p w w':=⟨fun b _ hb=>h.block b hb⟩
section
variable {w w' : World} {p q:Nat→Prop} {v:Value} {cs:List Value}
theorem yY.keep {l:List x9} (h:yY w p v l) (k:Keeps p w w') (hp : ∀ b,p b→q b):yY w' q v l:=RL.imp h hp k.block fun _ _ h=>h
theorem nY.keep {l:List C5} (h:nY w p v l) (k:Keeps p w w') (hp : ∀ b,p b→q b):nY w' q v l:=RL.imp h hp k.block fun _ _ h=>h
theorem yZ.keep {l:List Lg} (h:yZ w p v l) (k:Keeps p w w') (hp : ∀ b,p b→q b):yZ w' q v l:=RL.imp h hp k.block fun _ _ h=>h
theorem YX.keep {t:ET} (h:YX w p cs t) (k:Keeps p w w') (hp : ∀ b,p b→q b):YX w' q cs t:=by obtain ⟨v,e,h⟩:=h;exact ⟨v,e,h.keep k hp⟩
theorem kT.keep {l:fK} (h:kT w p v l) (k:Keeps p w w') (hp : ∀ b,p b→q b):kT w' q v l:=RL.imp h hp k.block fun _ _ h=>h.keep k hp
theorem aiE.keep {t:fK} (h:aiE w p cs t) (k:Keeps p w w') (hp : ∀ b,p b→q b):aiE w' q cs t:=by obtain ⟨v,e,h⟩:=h;exact ⟨v,e,h.keep k hp⟩
theorem y7.keep {l:List fK} (h:y7 w p v l) (k:Keeps p w w') (hp : ∀ b,p b→q b):y7 w' q v l:=RL.imp h hp k.block fun _ _ h=>h.keep k hp
theorem aiF.keep {t:qN} (h:aiF w p cs t) (k:Keeps p w w') (hp : ∀ b,p b→q b):aiF w' q cs t:=by obtain ⟨v,u,e,h1,h2⟩:=h;exact ⟨v,u,e,h1.keep k hp,h2.keep k hp⟩
theorem Uf.keep {l:List qN} (h:Uf w p v l) (k:Keeps p w w') (hp : ∀ b,p b→q b):Uf w' q v l:=RL.imp h hp k.block fun _ _ h=>h.keep k hp
theorem aiG.keep {t:oV} (h:aiG w p cs t) (k:Keeps p w w') (hp : ∀ b,p b→q b):aiG w' q cs t:=by obtain ⟨v,e,h1⟩:=h;exact ⟨v,e,h1.keep k hp⟩
theorem Ug.keep {l:List oV} (h:Ug w p v l) (k:Keeps p w w') (hp : ∀ b,p b→q b):Ug w' q v l:=RL.imp h hp k.block fun _ _ h=>h.keep k hp
theorem Gw.keep {g:gK} (h:Gw w p v g) (k:Keeps p w w') (hp : ∀ b,p b→q b):Gw w' q v g:=by obtain ⟨a,b,e,h1,h2⟩:=h;exact ⟨a,b,e,h1.keep k hp,h2.keep k hp⟩
theorem yY.on {l:List x9} (h:yY w p v l) (k:Below w.heap.size w w'):yY w' p v l:=h.keep (.of_below k) fun _ h=>h
theorem nY.on {l:List C5} (h:nY w p v l) (k:Below w.heap.size w w'):nY w' p v l:=h.keep (.of_below k) fun _ h=>h
theorem yZ.on {l:List Lg} (h:yZ w p v l) (k:Below w.heap.size w w'):yZ w' p v l:=h.keep (.of_below k) fun _ h=>h
theorem kT.on {l:fK} (h:kT w p v l) (k:Below w.heap.size w w'):kT w' p v l:=h.keep (.of_below k) fun _ h=>h
theorem y7.on {l:List fK} (h:y7 w p v l) (k:Below w.heap.size w w'):y7 w' p v l:=h.keep (.of_below k) fun _ h=>h
theorem Gw.on {g:gK} (h:Gw w p v g) (k:Below w.heap.size w w'):Gw w' p v g:=h.keep (.of_below k) fun _ h=>h
end
theorem Sl.get {w:World} {p:Nat→Prop} {sz:Nat} {a:Option Addr} {n cap:Nat} {G:Nat→List Value} (h:Sl w p sz (.slice a n cap) n G) (hn:0<n) :
  ∃ b off,a=some ⟨b,off,none⟩∧p b∧b<w.heap.size∧wW w b off sz n G:=by
 obtain ⟨a',cap',hv,h1,h2,h3,h4⟩:=h
 simp only [Value.slice.injEq] at hv
 obtain ⟨rfl,-,rfl⟩:=hv
 rcases h3 with h3|h3
 ·omega
 ·exact h3
theorem Sl.form {w:World} {p:Nat→Prop} {sz:Nat} {v:Value} {n:Nat} {G:Nat→List Value} (h:Sl w p sz v n G) : ∃ a cap,v = .slice a n cap∧n≤cap∧cap≤9223372036854775807:=by
 obtain ⟨a,cap,hv,h1,h2,_⟩:=h
 exact ⟨a,cap,hv,h1,h2⟩
theorem ku.sl {w:World} {base:Nat} {T:TypeId} {sz:Nat} {v:Value} {n:Nat} {F:Nat→List Value} (h:ku w base T sz v n F):Sl w (fun b=>base≤b) sz v n F:=by
 rcases h.form with ⟨rfl,rfl⟩|⟨g,cap,rfl,hb,hn,hm,hl,hr⟩
 ·exact Sl.nil _ _ _ _
 ·exact ⟨_,cap,rfl,hn,hm,.inr ⟨g,0,rfl,hb,hl,hr⟩,h.2⟩
theorem Own.sl {w:World} {b sz n:Nat} {F:Nat→List Value} (h:Own w b sz n F) (hn:n≤9223372036854775807) (hl : ∀ i,i<n→(F i).length=sz):Sl w (fun x=>x=b) sz (.slice (some ⟨b,0,none⟩) n n) n F :=
 ⟨_,n,rfl,jp,hn,.inr ⟨b,0,rfl,rfl,h.lt,h.reads⟩,hl⟩
end Go.Proofs.Ins
namespace Go.Proofs.Xe
open Go.RowKit Go.Proofs.Ins
def rO (N:Nat):Value→B
 | .int k n=>.int k n
 | .bool b=>.bool b
 | .string s=>.str s
 | .pointer (some a)=>if a.spot=none∧a.block<N then .ptr a.block a.off else .any
 | .pointer none=>.Px
 | .slice (some a) n K=>if K≤9223372036854775807 then (if a.spot=none∧a.block<N∧n≤K then .sl a.block a.off n .any else if n=0 then .sl 0 0 0 .any else .any) else .any
 | .slice none 0 0=>.aY
 | _=>.any
def Ph.id (N:Nat):Ph:=fun b=>if b<N then some (b,0) else none
theorem xH (N:Nat) (v:Value) (h:(rO N v).kn=true):RB (Ph.id N) (rO N v) v:=by
 unfold rO at h ⊢
 split at h <;> try rfl
 ·next a =>
  split at h
  ·next hc =>
   rw [if_pos hc]
   obtain ⟨b,o,s⟩:=a
   obtain ⟨h1,h2⟩:=hc
   dsimp only at h1 h2
   subst h1
   exact ⟨(b,0),if_pos h2,rfl⟩
  ·cases h
 ·next a n K =>
  split at h
  ·next hK =>
   rw [if_pos hK]
   split at h
   ·next hc =>
    rw [if_pos hc]
    obtain ⟨b,o,s⟩:=a
    obtain ⟨h1,h2,h3⟩:=hc
    dsimp only at h1 h2
    subst h1
    exact .inl ⟨(b,0),K,if_pos h2,rfl,h3,hK,trivial⟩
   ·next hc =>
    rw [if_neg hc]
    split at h
    ·next h0 =>
     subst h0
     rw [if_pos rfl]
     exact .inr ⟨rfl,rfl,a,K,rfl,hK⟩
    ·cases h
  ·cases h
 ·cases h
def St.of (w:World):St:=⟨.fn fun b=>match w.heap[b]? with|some (.cells cs _ _)=>some ⟨cs.toList.map (rO w.heap.size),some (0,1)⟩|_=>none,w.heap.size⟩
theorem WF.of (w:World):WF (St.of w):=fun b hb=>by
 have hb:w.heap.size≤b:=hb
 show (match w.heap[b]? with|some (.cells cs _ _)=>some _|_=>none)=none
 rw [Array.getElem?_eq_none hb]
theorem Rel.of (w:World):Rel w.heap.size w (Ph.id w.heap.size) (St.of w) w where
 n0:=jp
 bel:=Below.refl _ _
 inj:=fun b b' p p' h1 _ _ hN _ _=>by
  unfold Ph.id at h1
  split at h1
  ·next hlt=>cases h1;exact absurd hlt (Nat.not_lt.mpr hN)
  ·cases h1
 lo:=fun b p h=>by
  unfold Ph.id at h
  split at h
  ·next hlt=>cases h;exact hlt
  ·cases h
 fz:=fun b k p hk _ _=>by
  have hk:(match w.heap[b]? with|some (.cells cs _ _)=>some (⟨cs.toList.map (rO w.heap.size),some (0,1)⟩:Bk)|_=>none)=some k:=hk
  split at hk
  ·cases hk;exact ⟨rfl,rfl⟩
  ·cases hk
 blk:=fun b k p hk hp=>by
  have hp' : p.1=b∧b<w.heap.size:=by
   unfold Ph.id at hp
   split at hp
   ·next hlt=>cases hp;exact ⟨rfl,hlt⟩
   ·cases hp
  have hk:(match w.heap[b]? with|some (.cells cs _ _)=>some (⟨cs.toList.map (rO w.heap.size),some (0,1)⟩:Bk)|_=>none)=some k:=hk
  split at hk
  ·next cs T z hcs =>
   cases hk
   refine .inr (.inr ⟨rfl,rfl,fun j x hj hx=>?_⟩)
   simp only [List.getElem?_map,Option.map_eq_some_iff] at hj
   obtain ⟨v,hv,rfl⟩:=hj
   refine ⟨v,?_,xH _ _ hx⟩
   rw [hp'.1]
   unfold World.cell?
   rw [hcs]
   simpa using hv
  ·cases hk
 ah:=fun b hb=>by
  have hb:w.heap.size≤b:=hb
  refine ⟨if_neg jb,?_⟩
  show (match w.heap[b]? with|some (.cells cs _ _)=>some _|_=>none)=none
  rw [Array.getElem?_eq_none hb]
theorem ap3 {w:World} {b o n:Nat} {l:List Value} (hn:l.length=n) (h0:0<n) (h : ∀ j v,l[j]?=some v→w.cell? ⟨b,o+j,none⟩=some v) (hk : ∀ v∈l,(rO w.heap.size v).kn=true) :
  ld (St.of w).h b o n true=some (.agg (l.map (rO w.heap.size))):=by
 have hc : ∃ cs T z,w.heap[b]?=some (.cells cs T z)∧(cs.toList.drop o).take n=l:=by
  match l,hn with
  | v::l',hn =>
   have h1:=h 0 v rfl
   unfold World.cell? at h1
   dsimp only at h1
   split at h1
   ·next cs T z e =>
    refine ⟨cs,T,z,e,?_⟩
    apply List.ext_getElem?
    intro j
    by_cases hj:j<n
    ·rw [List.getElem?_take_of_lt hj,List.getElem?_drop]
     cases hv:(v::l')[j]? with
     | none=>rw [List.getElem?_eq_none_iff] at hv;omega
     | some u =>
      have:=h j u hv
      unfold World.cell? at this
      dsimp only at this
      rw [e] at this
      simpa using this
    ·rw [List.getElem?_eq_none (by simp;omega),List.getElem?_eq_none jb]
   ·cases h1
  | [],hn=>simp at hn;omega
 obtain ⟨cs,T,z,e,hl⟩:=hc
 have hg:(St.of w).h b=some ⟨cs.toList.map (rO w.heap.size),some (0,1)⟩:=by
  show (match w.heap[b]? with|some (.cells cs _ _)=>some (⟨cs.toList.map (rO w.heap.size),some (0,1)⟩:Bk)|_=>none)=_
  rw [e]
 unfold ld
 rw [hg]
 show (bif true then _ else _)=_
 rw [cond_true]
 unfold yw
 dsimp only
 rw [← List.map_drop,← List.map_take,hl,List.length_map,hn,YP,show (l.map (rO w.heap.size)).all B.kn=true by
  rw [List.all_eq_true];intro x hx;obtain ⟨v,hv,rfl⟩:=List.mem_map.mp hx;exact hk v hv]
 rfl
theorem YZ (N:Nat) (a:Addr) (n K:Nat):rO N (.slice (some a) n K)=if K≤9223372036854775807 then (if a.spot=none∧a.block<N∧n≤K then .sl a.block a.off n .any else if n=0 then .sl 0 0 0 .any else .any) else .any:=rfl
theorem HL.of {w:World} {a:Option Addr} {n cap e:Nat} {F:Nat→List Value} (h:OG w a n e F) (hf:(a=none∧n=0∧cap=0)∨∃ x,a=some x) (hn:n≤cap) (hc:cap≤9223372036854775807) (he:0<e) (hF : ∀ i,i<n→(F i).length=e) (hk : ∀ i,i<n→∀ v∈F i,(rO w.heap.size v).kn=true) :
  HL (St.of w).h e (rO w.heap.size (.slice a n cap)) n fun i=>(F i).map (rO w.heap.size):=by
 rcases hf with ⟨rfl,rfl,rfl⟩|⟨x,rfl⟩
 ·exact .inl ⟨rfl,rfl⟩
 ·by_cases h0:n=0
  ·subst h0
   rw [YZ,if_pos hc]
   split
   ·exact .inr ⟨_,_,_,rfl,fun i hi=>jb⟩
   ·rw [if_pos rfl];exact .inr ⟨_,_,_,rfl,fun i hi=>jb⟩
  ·rcases h with h|⟨b,off,e1,hb,hr⟩
   ·exact absurd h h0
   ·cases e1
    rw [YZ,if_pos hc,if_pos ⟨rfl,hb,hn⟩]
    refine .inr ⟨_,_,_,rfl,fun i hi=>ap3 (hF i hi) he (fun j v hj=>?_) (hk i hi)⟩
    have hlt:j<e:=by rw [← hF i hi];exact (List.getElem?_eq_some_iff.mp hj).1
    have:=hr i j hi hlt
    rw [Nat.add_assoc] at this ⊢
    rw [this,hj]
end Go.Proofs.Xe
namespace Go.Proofs.Xe
open Go Go.RowKit Go.ChangeShapes Go.WideShapes Go.ChangeAt Go.Deep Go.Proofs.Ins Go.Proofs.YtjonjhcaniinaaaGreatDoor
section
variable {H:Type} {enc:TypeId×Value→H} {W:World} {sp:Nat→Bool} {held:Bool}
theorem Qb {P:Program} {t e:TypeId} (ht:P.underlying t=some (.slice e)) {fuel:Nat} {a:Option Addr} {n c:Nat} {x:DataW H×List MemPlace} (h:DataW.trod enc P W 0 sp held fuel t [.slice a n c]=some x):((a=none∧n=0∧c=0)∨∃ y,a=some y)∧n≤c∧c≤9223372036854775807:=by
 rcases open_slice ht h with ⟨e1,-⟩|⟨a',len,cap,m,k,D,Pl,e1,-,hl,hm,-⟩
 ·simp only [List.cons.injEq,Value.slice.injEq,and_true] at e1
  obtain ⟨rfl,rfl,rfl⟩:=e1
  exact ⟨.inl ⟨rfl,rfl,rfl⟩,jp,jb⟩
 ·simp only [List.cons.injEq,Value.slice.injEq,and_true] at e1
  obtain ⟨rfl,rfl,rfl⟩:=e1
  simp only [maxLen] at hm
  exact ⟨.inr ⟨_,rfl⟩,hl,jb⟩
theorem Xd {fuel:Nat} {cs:List Value} {x:DataW H×List MemPlace} (h:DataW.trod enc Tryz.prog W 0 sp held fuel 22 cs=some x) (hL:Light Tryz.prog 22 x.1) :
  ∃ v n,∃ M:Nat→Nat,cs=[v]∧n≤140737488351232∧HL (St.of W).h 1 (rO W.heap.size v) n (fun i=>[.int .u16 (.ofNat (M i))])∧∀ i,i<n→M i≤65535:=by
 obtain ⟨a,n,c,M,rfl,hn,hs,hM⟩:=ac8 h hL
 obtain ⟨h1,h2,h3⟩:=Qb Tryz.underlying22 h
 exact ⟨_,n,M,rfl,hn,HL.of hs h1 h2 h3 jj (fun _ _=>rfl) (fun i _ v hv=>by
  simp only [c16,List.mem_singleton] at hv
  rw [hv];rfl),hM⟩
theorem Qc {fuel:Nat} {cs:List Value} {x:DataW H×List MemPlace} (h:DataW.trod enc Tryz.prog W 0 sp held fuel 62 cs=some x) :
  ∃ m:Nat→Nat,cs=[.int .u16 (m 0:Int),.int .u16 (m 1:Int),.int .u16 (m 2:Int),.int .u16 (m 3:Int)]∧∀ j,m j≤65535:=by
 obtain ⟨xs,n,rfl,rfl,hl,hx,hf⟩:=DataW.trod_array Tryz.underlying62 h
 have hc:Tryz.prog.cellsOf 62=4:=by kernel_rfl
 have hc0:Tryz.prog.cellsOf 61=1:=by kernel_rfl
 simp only [hc0,Nat.mul_one] at hf
 rw [hc] at hl
 match cs,hl,xs,hx with
 | [c0,c1,c2,c3],_,[x0,x1,x2,x3],_ =>
  obtain ⟨m0,e0,l0⟩:=nG (show DataW.trod enc Tryz.prog W 0 sp held n 61 [c0]=some x0 from hf 0 jb)
  obtain ⟨m1,e1,l1⟩:=nG (show DataW.trod enc Tryz.prog W 0 sp held n 61 [c1]=some x1 from hf 1 jb)
  obtain ⟨m2,e2,l2⟩:=nG (show DataW.trod enc Tryz.prog W 0 sp held n 61 [c2]=some x2 from hf 2 jb)
  obtain ⟨m3,e3,l3⟩:=nG (show DataW.trod enc Tryz.prog W 0 sp held n 61 [c3]=some x3 from hf 3 jb)
  simp at e0 e1 e2 e3
  subst e0 e1 e2 e3
  exact ⟨fun j=>if j=0 then m0 else if j=1 then m1 else if j=2 then m2 else m3,rfl,fun j=>by dsimp only;split;exact l0;split;exact l1;split;exact l2;exact l3⟩
theorem amK {fuel:Nat} {cs:List Value} {x:DataW H×List MemPlace} (h:DataW.trod enc Tryz.prog W 0 sp held fuel 23 cs=some x) (hL:Light Tryz.prog 23 x.1) :
  ∃ v n,∃ L:Nat→Nat→Nat,cs=[v]∧n≤140737488351232∧HL (St.of W).h 4 (rO W.heap.size v) n (fun i=>[.int .u16 (.ofNat (L i 0)),.int .u16 (.ofNat (L i 1)),.int .u16 (.ofNat (L i 2)),.int .u16 (.ofNat (L i 3))])∧∀ i j,i<n→L i j≤65535:=by
 obtain ⟨a,n,c,C,rfl,hn,hs0,hx⟩:=Ei (k:=4) Tryz.underlying23 (by kernel_rfl) jb (of_decide_eq_true (by kernel_rfl)) h hL
 obtain ⟨L,hLL⟩:=choose_lt (α:=Nat→Nat) (p:=fun i m=>C i=[.int .u16 (m 0:Int),.int .u16 (m 1:Int),.int .u16 (m 2:Int),.int .u16 (m 3:Int)]∧∀ j,m j≤65535) (fun i hi=>by
  obtain ⟨_,n,y,h1,h2⟩:=hx i hi
  exact Qc h1)
 have hs:=hs0.congr fun i hi=>(hLL i hi).1
 obtain ⟨h1,h2,h3⟩:=Qb Tryz.underlying23 h
 exact ⟨_,n,L,rfl,hn,HL.of hs h1 h2 h3 jj (fun _ _=>rfl) (fun i _ v hv=>by
  simp only [List.mem_cons,List.not_mem_nil,or_false] at hv
  rcases hv with rfl|rfl|rfl|rfl <;> rfl),fun i j hi=>(hLL i hi).2 j⟩
theorem Qd {fuel:Nat} {cs:List Value} {x:DataW H×List MemPlace} (h:DataW.trod enc Tryz.prog W 0 sp held fuel 65 cs=some x) :
  ∃ m:Nat→Nat,cs=[.int .u16 (m 0:Int),.int .u16 (m 1:Int),.int .u16 (m 2:Int)]∧∀ j,m j≤65535:=by
 obtain ⟨xs,n,rfl,rfl,hl,hx,hf⟩:=DataW.trod_array Tryz.underlying65 h
 have hc:Tryz.prog.cellsOf 65=3:=by kernel_rfl
 have hc0:Tryz.prog.cellsOf 61=1:=by kernel_rfl
 simp only [hc0,Nat.mul_one] at hf
 rw [hc] at hl
 match cs,hl,xs,hx with
 | [c0,c1,c2],_,[x0,x1,x2],_ =>
  obtain ⟨m0,e0,l0⟩:=nG (show DataW.trod enc Tryz.prog W 0 sp held n 61 [c0]=some x0 from hf 0 jb)
  obtain ⟨m1,e1,l1⟩:=nG (show DataW.trod enc Tryz.prog W 0 sp held n 61 [c1]=some x1 from hf 1 jb)
  obtain ⟨m2,e2,l2⟩:=nG (show DataW.trod enc Tryz.prog W 0 sp held n 61 [c2]=some x2 from hf 2 jb)
  simp at e0 e1 e2
  subst e0 e1 e2
  exact ⟨fun j=>if j=0 then m0 else if j=1 then m1 else m2,rfl,fun j=>by dsimp only;split;exact l0;split;exact l1;exact l2⟩
theorem Y0 {fuel:Nat} {cs:List Value} {x:DataW H×List MemPlace} (h:DataW.trod enc Tryz.prog W 0 sp held fuel 24 cs=some x) (hL:Light Tryz.prog 24 x.1) :
  ∃ v n,∃ L:Nat→Nat→Nat,cs=[v]∧n≤140737488351232∧HL (St.of W).h 3 (rO W.heap.size v) n (fun i=>[.int .u16 (.ofNat (L i 0)),.int .u16 (.ofNat (L i 1)),.int .u16 (.ofNat (L i 2))])∧∀ i j,i<n→L i j≤65535:=by
 obtain ⟨a,n,c,C,rfl,hn,hs0,hx⟩:=Ei (k:=3) Tryz.underlying24 (by kernel_rfl) jb (of_decide_eq_true (by kernel_rfl)) h hL
 obtain ⟨L,hLL⟩:=choose_lt (α:=Nat→Nat) (p:=fun i m=>C i=[.int .u16 (m 0:Int),.int .u16 (m 1:Int),.int .u16 (m 2:Int)]∧∀ j,m j≤65535) (fun i hi=>by
  obtain ⟨_,n,y,h1,h2⟩:=hx i hi
  exact Qd h1)
 have hs:=hs0.congr fun i hi=>(hLL i hi).1
 obtain ⟨h1,h2,h3⟩:=Qb Tryz.underlying24 h
 exact ⟨_,n,L,rfl,hn,HL.of hs h1 h2 h3 jj (fun _ _=>rfl) (fun i _ v hv=>by
  simp only [List.mem_cons,List.not_mem_nil,or_false] at hv
  rcases hv with rfl|rfl|rfl <;> rfl),fun i j hi=>(hLL i hi).2 j⟩
end
end Go.Proofs.Xe
namespace Go.Proofs.Ins
def mD (f:Nat→Int):Nat→Int
 | 0=>0
 | n+1=>if mD f n=0 then f n else mD f n
theorem eF {f:Nat→Int} : ∀ {n:Nat},(∀ i,i<n→f i=0)→mD f n=0
 | 0,_=>rfl
 | n+1,h=>by
  unfold mD;rw [if_pos (eF fun i hi=>h i jb)];exact h n jb
theorem rP {f:Nat→Int} {k:Nat} : ∀ {n:Nat},(∀ i,i<k→f i=0)→f k≠0→k<n→mD f n=f k
 | 0,_,_,h=>by omega
 | n+1,h,h2,h3=>by
  unfold mD
  by_cases e:k=n
  ·subst e;rw [if_pos (eF h)]
  ·have:=rP h h2 (show k<n by omega)
   rw [if_neg (by rw [this];exact h2),this]
theorem kG {f:Nat→Int} : ∀ {n:Nat},mD f n=0→∀ i,i<n→f i=0
 | 0,_,i,hi=>jb
 | n+1,h,i,hi=>by
  unfold mD at h
  by_cases e:mD f n=0
  ·rw [if_pos e] at h
   by_cases e2:i=n
   ·rw [e2];exact h
   ·exact kG e i jb
  ·rw [if_neg e] at h;exact absurd h e
theorem Ag {f g:Nat→Int} : ∀ {n:Nat},(∀ i,i<n→f i=g i)→mD f n=mD g n
 | 0,_=>rfl
 | n+1,h=>by unfold mD;rw [Ag (n:=n) fun i hi=>h i jb,h n jb]
def oJ (x:C5):Int:=if x.h < -1∨8≤x.h then 19 else if x.r<0∨7<x.r then 1 else if sg x.a.q<0 then 7 else 0
def memT (t:ET) (c:Int):Bool:=t.any fun p=>p.k == c
def Dw (a:fK) (c:Int):Bool:=a.any fun t=>memT t c
def lV (l:List fK) (k:Nat) (c:Int):Bool:=(l.take k).any fun a=>Dw a c
def rQ (n:Nat) (tk:Int→Bool) (p:x9):Int :=
 if p.k < -1∨(n:Int)≤p.k then 1 else if p.k = -1∧p.b=false then 21 else if p.b=true∧sg p.a.q<0 then 7 else if p.k≠-1∧tk p.k=true then 20 else 0
def yc (a:fK):Bool:=decide (24<a.length) || a.any fun t=>decide (24<t.length)
def aiH (n:Nat) (tk:Int→Bool) (t:ET):Int:=mD (fun i=>rQ n tk (ix t i)) t.length
def uD (n:Nat) (tk:Int→Bool) (a:fK):Int:=if yc a=true then 2 else mD (fun i=>aiH n tk (ix a i)) a.length
def lH (e:qN):Int :=
 if 24<e.c.length∨12<e.a.length then 2 else if sg e.m.q<0 then 7
 else if mD (fun i=>oJ (ix e.c i)) e.c.length≠0 then mD (fun i=>oJ (ix e.c i)) e.c.length
 else mD (fun k=>uD e.c.length (lV e.a k) (ix e.a k)) e.a.length
theorem Y5 {t:ET} {c:Int} : memT t c=true↔∃ i,i<t.length∧(ix t i).k=c:=by
 unfold memT;rw [List.any_eq_true]
 constructor
 ·rintro ⟨x,hx,h⟩
  obtain ⟨i,hi,rfl⟩:=List.getElem_of_mem hx
  exact ⟨i,hi,by rw [dZ hi];simpa using h⟩
 ·rintro ⟨i,hi,h⟩
  exact ⟨_,jQ hi,by simpa using h⟩
theorem Y6 {a:fK} {c:Int} : Dw a c=true↔∃ i,i<a.length∧memT (ix a i) c=true:=by
 unfold Dw;rw [List.any_eq_true]
 constructor
 ·rintro ⟨x,hx,h⟩
  obtain ⟨i,hi,rfl⟩:=List.getElem_of_mem hx
  exact ⟨i,hi,by rw [dZ hi];exact h⟩
 ·rintro ⟨i,hi,h⟩
  exact ⟨_,jQ hi,h⟩
theorem abu (l:List fK) (c:Int):lV l 0 c=false:=by simp [lV]
theorem abv {l:List fK} {k:Nat} (h:k<l.length) (c:Int):lV l (k+1) c=(lV l k c || Dw (ix l k) c):=by
 unfold lV;rw [aZ h,List.any_append];simp
theorem uY {a:fK} : yc a=false↔a.length≤24∧∀ i,i<a.length→(ix a i).length≤24:=by
 unfold yc
 rw [Bool.or_eq_false_iff,decide_eq_false_iff_not,List.any_eq_false]
 constructor
 ·rintro ⟨h1,h2⟩
  exact ⟨jb,fun i hi=>by have:=h2 _ (jQ hi);simp at this;omega⟩
 ·rintro ⟨h1,h2⟩
  refine ⟨jb,fun x hx=>?_⟩
  obtain ⟨i,hi,rfl⟩:=List.getElem_of_mem hx
  have:=h2 i hi;rw [dZ hi] at this;simp;omega
def iM (l:List oV) (d k:Nat):List Lg:=((l.take d).flatMap fun x=>x.l) ++ (ix l d).l.take k
def sZ (s:List Lg) (x:Lg):Bool:=s.any fun y=>y.e == x.e && y.k == x.k
def holdL (l:List qN) (x:Lg):Int:=(ix (ix l x.e.toNat).c x.k.toNat).h
def nM (g:gK) (d k:Nat):Int :=
 let x:=ix (ix g.d d).l k
 if x.e<0∨(g.e.length:Int)≤x.e∨x.k<0∨((ix g.e x.e.toNat).c.length:Int)≤x.k then 1
 else if sZ (iM g.d d k) x=true then 20
 else if holdL g.e x≠holdL g.e (ix (ix g.d d).l 0) then 19 else 0
def vM (g:gK) (d:Nat):Int :=
 if 8<(ix g.d d).l.length then 2 else if sg (ix g.d d).w.q<0 then 7 else mD (nM g d) (ix g.d d).l.length
def mF (g:gK) (i k:Nat):Int:=if (g.e.length:Int)≤(ix (ix g.e i).c k).h∨(ix (ix g.e i).c k).h=(i:Int) then 19 else 0
def qO (g:gK):Int :=
 if 8<g.e.length∨16<g.d.length then 2
 else if mD (fun i=>lH (ix g.e i)) g.e.length≠0 then mD (fun i=>lH (ix g.e i)) g.e.length
 else if mD (fun i=>mD (mF g i) (ix g.e i).c.length) g.e.length≠0 then mD (fun i=>mD (mF g i) (ix g.e i).c.length) g.e.length
 else mD (vM g) g.d.length
structure aeE (k:Nat) (e:qN):Prop where
 m:e.m.fits k
 c : ∀ i,i<e.c.length→(ix e.c i).a.fits k
 a : ∀ i j l,i<e.a.length→j<(ix e.a i).length→l<(ix (ix e.a i) j).length→(ix (ix (ix e.a i) j) l).a.fits k
 lc:e.c.length≤140737488351232
 la:e.a.length≤140737488351232
 lt : ∀ i,i<e.a.length→(ix e.a i).length≤140737488351232
 lp : ∀ i j,i<e.a.length→j<(ix e.a i).length→(ix (ix e.a i) j).length≤140737488351232
structure vN (k:Nat) (g:gK):Prop where
 e : ∀ i,i<g.e.length→aeE k (ix g.e i)
 w : ∀ i,i<g.d.length→(ix g.d i).w.fits k
 le:g.e.length≤140737488351232
 ld:g.d.length≤140737488351232
 ll : ∀ i,i<g.d.length→(ix g.d i).l.length≤140737488351232
end Go.Proofs.Ins
namespace Go.Proofs.Xe
open Go.RowKit Go.Proofs.Ins
def bW (p:Nat→Prop) (h:Tr Bk) (e:Nat) (v:B) (n:Nat) (G:Nat→List B):Prop :=
 (n=0∧v = .aY)∨∃ b o c,v = .sl b o n c∧(0<n→p b)∧∀ i,i<n→ld h b (o+i*e) e true=some (.agg (G i))
section
variable {p q:Nat→Prop} {h h' : Tr Bk} {e n:Nat} {v:B} {G:Nat→List B}
theorem bW.hl (hl:bW p h e v n G):HL h e v n G:=by
 rcases hl with h|⟨b,o,c,h1,h2,h3⟩
 ·exact .inl h
 ·exact .inr ⟨b,o,c,h1,h3⟩
theorem bW.len (hl:bW p h e v n G):lenV (.c v)=some (.c (.int .i64 (.ofNat n))):=hl.hl.len
theorem bW.kn (hl:bW p h e v n G):v.kn=true:=hl.hl.kn
theorem bW.pos (hl:bW p h e v n G) (hn:0<n) : ∃ b o c,v = .sl b o n c∧p b∧∀ i,i<n→ld h b (o+i*e) e true=some (.agg (G i)):=by
 rcases hl with ⟨rfl,-⟩|⟨b,o,c,h1,h2,h3⟩
 ·omega
 ·exact ⟨b,o,c,h1,h2 hn,h3⟩
theorem bW.keep (hl:bW p h e v n G) (hk : ∀ b,p b→h' b=h b) (hp : ∀ b,p b→q b):bW q h' e v n G:=by
 rcases hl with h1|⟨b,o,c,h1,h2,h3⟩
 ·exact .inl h1
 ·refine .inr ⟨b,o,c,h1,fun h=>hp _ (h2 h),fun i hi=>?_⟩
  have:=h3 i hi
  unfold ld at this ⊢
  rw [hk b (h2 jb)];exact this
theorem bW.congr {G' : Nat→List B} (hl:bW p h e v n G) (hg : ∀ i,i<n→G i=G' i):bW p h e v n G':=by
 rcases hl with h1|⟨b,o,c,h1,h2,h3⟩
 ·exact .inl h1
 ·exact .inr ⟨b,o,c,h1,h2,fun i hi=>by rw [← hg i hi];exact h3 i hi⟩
theorem bW.uniq {n' : Nat} {G' : Nat→List B} {p' : Nat→Prop} (hl:bW p h e v n G) (hl' : bW p' h e v n' G'):n=n'∧∀ i,i<n→G i=G' i:=by
 rcases hl with ⟨rfl,rfl⟩|⟨b,o,c,rfl,h2,h3⟩
 ·rcases hl' with ⟨rfl,-⟩|⟨b,o,c,h1,-⟩
  ·exact ⟨rfl,fun i hi=>jb⟩
  ·cases h1
 ·rcases hl' with ⟨-,h1⟩|⟨b',o',c',h1,h2',h3'⟩
  ·cases h1
  ·cases h1
   refine ⟨rfl,fun i hi=>?_⟩
   have a:=h3 i hi
   rw [h3' i hi] at a
   exact (V.agg.inj (Option.some.inj a)).symm
end
def r3B (r:R3):List B:=[.bool r.n,.str r.s,.str r.d]
def c5B (x:C5):List B:=[.int .i64 x.h,.int .i64 x.r,.bool x.a.n,.str x.a.s,.str x.a.d]
def JV (x:x9):List B:=[.int .i64 x.k,.bool x.b,.bool x.a.n,.str x.a.s,.str x.a.d]
def Hw (x:Ins.Lg):List B:=[.int .i64 x.e,.int .i64 x.k]
def pX (p:Nat→Prop) (h:Tr Bk) (v:B) (l:List C5):Prop:=bW p h 5 v l.length fun i=>c5B (ix l i)
def Bv (p:Nat→Prop) (h:Tr Bk) (v:B) (l:List x9):Prop:=bW p h 5 v l.length fun i=>JV (ix l i)
def AQ (p:Nat→Prop) (h:Tr Bk) (v:B) (l:List Ins.Lg):Prop:=bW p h 2 v l.length fun i=>Hw (ix l i)
def gu (p:Nat→Prop) (h:Tr Bk) (v:B) (l:fK):Prop:=∃ T:Nat→B,bW p h 1 v l.length (fun i=>[T i])∧∀ i,i<l.length→Bv p h (T i) (ix l i)
def iF (p:Nat→Prop) (h:Tr Bk) (v:B) (l:List fK):Prop:=∃ T:Nat→B,bW p h 1 v l.length (fun i=>[T i])∧∀ i,i<l.length→gu p h (T i) (ix l i)
def qY (p:Nat→Prop) (h:Tr Bk) (v:B) (l:List qN):Prop:=∃ C A:Nat→B,bW p h 5 v l.length (fun i=>[.bool (ix l i).m.n,.str (ix l i).m.s,.str (ix l i).m.d,C i,A i])∧∀ i,i<l.length→pX p h (C i) (ix l i).c∧iF p h (A i) (ix l i).a
def iR (p:Nat→Prop) (h:Tr Bk) (v:B) (l:List oV):Prop:=∃ L:Nat→B,bW p h 4 v l.length (fun i=>[.bool (ix l i).w.n,.str (ix l i).w.s,.str (ix l i).w.d,L i])∧∀ i,i<l.length→AQ p h (L i) (ix l i).l
structure qB (p:Nat→Prop) (h:Tr Bk) (ev dv:B) (g:gK):Prop where
 e:qY p h ev g.e
 d:iR p h dv g.d
section
variable {p q p' : Nat→Prop} {h h' : Tr Bk} {v ev dv:B}
theorem gu.keep {l:fK} (hl:gu p h v l) (hk : ∀ b,p b→h' b=h b) (hp : ∀ b,p b→q b):gu q h' v l:=by
 obtain ⟨T,h1,h2⟩:=hl
 exact ⟨T,h1.keep hk hp,fun i hi=>(h2 i hi).keep hk hp⟩
theorem iF.keep {l:List fK} (hl:iF p h v l) (hk : ∀ b,p b→h' b=h b) (hp : ∀ b,p b→q b):iF q h' v l:=by
 obtain ⟨T,h1,h2⟩:=hl
 exact ⟨T,h1.keep hk hp,fun i hi=>(h2 i hi).keep hk hp⟩
theorem qY.keep {l:List qN} (hl:qY p h v l) (hk : ∀ b,p b→h' b=h b) (hp : ∀ b,p b→q b):qY q h' v l:=by
 obtain ⟨C,A,h1,h2⟩:=hl
 exact ⟨C,A,h1.keep hk hp,fun i hi=>⟨(h2 i hi).1.keep hk hp,(h2 i hi).2.keep hk hp⟩⟩
theorem iR.keep {l:List oV} (hl:iR p h v l) (hk : ∀ b,p b→h' b=h b) (hp : ∀ b,p b→q b):iR q h' v l:=by
 obtain ⟨L,h1,h2⟩:=hl
 exact ⟨L,h1.keep hk hp,fun i hi=>(h2 i hi).keep hk hp⟩
theorem qB.keep {g:gK} (hg:qB p h ev dv g) (hk : ∀ b,p b→h' b=h b) (hp : ∀ b,p b→q b):qB q h' ev dv g:=⟨hg.e.keep hk hp,hg.d.keep hk hp⟩
theorem tq {α:Type} [Inhabited α] {l l' : List α} (hn:l.length=l'.length) (h : ∀ i,i<l.length→ix l i=ix l' i):l=l':=by
 apply List.ext_getElem hn
 intro i h1 h2
 have:=h i h1
 rw [dZ h1,dZ h2] at this
 exact this
theorem pX.uniq {l l' : List C5} (hl:pX p h v l) (hl' : pX p' h v l'):l=l':=by
 obtain ⟨h1,h2⟩:=bW.uniq hl hl'
 refine tq h1 fun i hi=>?_
 have e:=h2 i hi
 generalize ix l i=x at *
 generalize ix l' i=y at *
 obtain ⟨x1,x2,x3,x4,x5⟩:=x
 obtain ⟨y1,y2,y3,y4,y5⟩:=y
 simp [c5B] at e
 obtain ⟨rfl,rfl,rfl,rfl,rfl⟩:=e
 rfl
theorem Bv.uniq {l l' : List x9} (hl:Bv p h v l) (hl' : Bv p' h v l'):l=l':=by
 obtain ⟨h1,h2⟩:=bW.uniq hl hl'
 refine tq h1 fun i hi=>?_
 have e:=h2 i hi
 generalize ix l i=x at *
 generalize ix l' i=y at *
 obtain ⟨x1,x2,x3,x4,x5⟩:=x
 obtain ⟨y1,y2,y3,y4,y5⟩:=y
 simp [JV] at e
 obtain ⟨rfl,rfl,rfl,rfl,rfl⟩:=e
 rfl
theorem AQ.uniq {l l' : List Ins.Lg} (hl:AQ p h v l) (hl' : AQ p' h v l'):l=l':=by
 obtain ⟨h1,h2⟩:=bW.uniq hl hl'
 refine tq h1 fun i hi=>?_
 have e:=h2 i hi
 generalize ix l i=x at *
 generalize ix l' i=y at *
 obtain ⟨x1,x2⟩:=x
 obtain ⟨y1,y2⟩:=y
 simp [Hw] at e
 obtain ⟨rfl,rfl⟩:=e
 rfl
theorem gu.uniq {l l' : fK} (hl:gu p h v l) (hl' : gu p' h v l'):l=l':=by
 obtain ⟨T,h1,h2⟩:=hl
 obtain ⟨T',h1',h2'⟩:=hl'
 obtain ⟨e1,e2⟩:=h1.uniq h1'
 refine tq e1 fun i hi=>?_
 have e:=e2 i hi
 simp only [List.cons.injEq,and_true] at e
 have a:=h2 i hi
 rw [e] at a
 exact a.uniq (h2' i jb)
theorem iF.uniq {l l' : List fK} (hl:iF p h v l) (hl' : iF p' h v l'):l=l':=by
 obtain ⟨T,h1,h2⟩:=hl
 obtain ⟨T',h1',h2'⟩:=hl'
 obtain ⟨e1,e2⟩:=h1.uniq h1'
 refine tq e1 fun i hi=>?_
 have e:=e2 i hi
 simp only [List.cons.injEq,and_true] at e
 have a:=h2 i hi
 rw [e] at a
 exact a.uniq (h2' i jb)
theorem qY.uniq {l l' : List qN} (hl:qY p h v l) (hl' : qY p' h v l'):l=l':=by
 obtain ⟨C,A,h1,h2⟩:=hl
 obtain ⟨C',A',h1',h2'⟩:=hl'
 obtain ⟨e1,e2⟩:=h1.uniq h1'
 refine tq e1 fun i hi=>?_
 have e:=e2 i hi
 have a:=h2 i hi
 have a':=h2' i jb
 simp only [List.cons.injEq,and_true,B.bool.injEq,B.str.injEq] at e
 obtain ⟨f1,f2,f3,f4,f5⟩:=e
 rw [f4,f5] at a
 have g1:=a.1.uniq a'.1
 have g2:=a.2.uniq a'.2
 clear h1 h2 h1' h2' e2
 generalize ix l i=x at *
 generalize ix l' i=y at *
 obtain ⟨⟨x1,x2,x3⟩,x4,x5⟩:=x
 obtain ⟨⟨y1,y2,y3⟩,y4,y5⟩:=y
 simp_all
theorem iR.uniq {l l' : List oV} (hl:iR p h v l) (hl' : iR p' h v l'):l=l':=by
 obtain ⟨L,h1,h2⟩:=hl
 obtain ⟨L',h1',h2'⟩:=hl'
 obtain ⟨e1,e2⟩:=h1.uniq h1'
 refine tq e1 fun i hi=>?_
 have e:=e2 i hi
 have a:=h2 i hi
 have a':=h2' i jb
 simp only [List.cons.injEq,and_true,B.bool.injEq,B.str.injEq] at e
 obtain ⟨f1,f2,f3,f4⟩:=e
 rw [f4] at a
 have g1:=a.uniq a'
 clear h1 h2 h1' h2' e2
 generalize ix l i=x at *
 generalize ix l' i=y at *
 obtain ⟨⟨x1,x2,x3⟩,x4⟩:=x
 obtain ⟨⟨y1,y2,y3⟩,y4⟩:=y
 simp_all
theorem qB.uniq {g g' : gK} (hl:qB p h ev dv g) (hl' : qB p' h ev dv g'):g=g':=by
 have h1:=hl.e.uniq hl'.e
 have h2:=hl.d.uniq hl'.d
 obtain ⟨a,b⟩:=g
 obtain ⟨c,d⟩:=g'
 simp_all
end
/-! ### What it says of a world -/
section
variable {N:Nat} {w0 w:World} {φ:Ph} {σ:St} {p:Nat→Prop}
theorem choose_lt' {α:Type} [Inhabited α] {n:Nat} {P:Nat→α→Prop} (h : ∀ i,i<n→∃ a,P i a) : ∃ f:Nat→α,∀ i,i<n→P i (f i) :=
 ⟨fun i=>if hi:i<n then Classical.choose (h i hi) else default,fun i hi=>by dsimp only;rw [dif_pos hi];exact Classical.choose_spec (h i hi)⟩
def InW (w:World) (b:Nat):Prop:=b<w.heap.size
theorem ap4 (hR:Rel N w0 φ σ w) {b o e:Nat} {c:List B} {P:Nat×Nat} (hp:φ b=some P) (hl:ld σ.h b o e true=some (.agg c)) : ∃ xs,kL φ c xs∧xs.length=e∧∀ j,j<e→w.cell? ⟨P.1,o+j,none⟩=xs[j]?:=by
 unfold ld at hl
 cases hk:σ.h b with
 | none=>rw [hk] at hl;cases hl
 | some k =>
  rw [hk] at hl
  dsimp only at hl
  cases hr:k.rd with
  | false=>rw [hr] at hl;cases hl
  | true =>
   rw [hr] at hl
   simp only [cond_true] at hl
   unfold yw at hl
   dsimp only at hl
   cases hx:(Nat.beq ((k.cells.drop o).take e).length e && ((k.cells.drop o).take e).all B.kn) with
   | false=>rw [hx] at hl;cases hl
   | true =>
    rw [hx] at hl
    cases hl
    rw [Bool.and_eq_true] at hx
    have hle:=Nat.eq_of_beq_eq_true hx.1
    obtain ⟨xs,h1,h2⟩:=hR.reads (k:=k) hk hr hp ((k.cells.drop o).take e) o (fun j x hj=>by
     rw [List.getElem?_take] at hj
     split at hj
     ·rwa [List.getElem?_drop] at hj
     ·cases hj) hx.2
    have hlx:xs.length=e:=by rw [← h1.length,hle]
    refine ⟨xs,h1,hlx,fun j hj=>?_⟩
    rw [List.getElem?_eq_getElem jb]
    exact h2 j _ (List.getElem?_eq_getElem _)
theorem bW.un (hR:Rel N w0 φ σ w) {e n:Nat} {v:B} {G:Nat→List B} {cv:Value} (hl:bW p σ.h e v n G) (hv:RB φ v cv) :
  ∃ F:Nat→List Value,Sl w (InW w) e cv n F∧∀ i,i<n→kL φ (G i) (F i):=by
 rcases hl with ⟨rfl,rfl⟩|⟨b,o,c,rfl,-,h3⟩
 ·have:cv = .slice none 0 0:=hv
  subst this
  exact ⟨fun _=>[],Sl.nil _ _ _ _,fun i hi=>jb⟩
 ·rcases hv with ⟨P,K,hp,rfl,hnK,hK,-⟩|⟨rfl,rfl,a,K,rfl,hK⟩
  ·obtain ⟨F,hF⟩:=choose_lt' (n:=n) (P:=fun i (xs:List Value)=>kL φ (G i) xs∧xs.length=e∧∀ j,j<e→w.cell? ⟨P.1,o+i*e+j,none⟩=xs[j]?) (fun i hi=>ap4 hR hp (h3 i hi))
   refine ⟨F,⟨_,K,rfl,hnK,hK,?_,fun i hi=>(hF i hi).2.1⟩,fun i hi=>(hF i hi).1⟩
   exact .inr ⟨_,_,rfl,hR.lo _ _ hp,hR.lo _ _ hp,fun i j hi hj=>(hF i hi).2.2 j hj⟩
  ·exact ⟨fun _=>[],⟨_,K,rfl,Nat.zero_le _,hK,.inl rfl,fun i hi=>jb⟩,fun i hi=>jb⟩
theorem kL.one {x:B} {r:List Value} (h:kL φ [x] r) : ∃ v,r=[v]∧RB φ x v:=by
 match r,h with
 | [v],h=>exact ⟨v,rfl,h.1⟩
theorem pX.un (hR:Rel N w0 φ σ w) {l:List C5} {v:B} {cv:Value} (hl:pX p σ.h v l) (hv:RB φ v cv):nY w (InW w) cv l:=by
 obtain ⟨F,h1,h2⟩:=bW.un hR hl hv
 refine ⟨F,h1,fun i hi=>?_⟩
 have:=h2 i hi
 unfold c5B at this
 match F i,this with
 | [a,b,c,d,e],⟨ha,hb,hc,hd,he,_⟩ =>
  have ha:a=_:=ha
  have hb:b=_:=hb
  have hc:c=_:=hc
  have hd:d=_:=hd
  have he:e=_:=he
  subst ha hb hc hd he
  rfl
theorem Bv.un (hR:Rel N w0 φ σ w) {l:List x9} {v:B} {cv:Value} (hl:Bv p σ.h v l) (hv:RB φ v cv):yY w (InW w) cv l:=by
 obtain ⟨F,h1,h2⟩:=bW.un hR hl hv
 refine ⟨F,h1,fun i hi=>?_⟩
 have:=h2 i hi
 unfold JV at this
 match F i,this with
 | [a,b,c,d,e],⟨ha,hb,hc,hd,he,_⟩ =>
  have ha:a=_:=ha
  have hb:b=_:=hb
  have hc:c=_:=hc
  have hd:d=_:=hd
  have he:e=_:=he
  subst ha hb hc hd he
  rfl
theorem AQ.un (hR:Rel N w0 φ σ w) {l:List Ins.Lg} {v:B} {cv:Value} (hl:AQ p σ.h v l) (hv:RB φ v cv):yZ w (InW w) cv l:=by
 obtain ⟨F,h1,h2⟩:=bW.un hR hl hv
 refine ⟨F,h1,fun i hi=>?_⟩
 have:=h2 i hi
 unfold Hw at this
 match F i,this with
 | [a,b],⟨ha,hb,_⟩ =>
  have ha:a=_:=ha
  have hb:b=_:=hb
  subst ha hb
  rfl
theorem gu.un (hR:Rel N w0 φ σ w) {l:fK} {v:B} {cv:Value} (hl:gu p σ.h v l) (hv:RB φ v cv):kT w (InW w) cv l:=by
 obtain ⟨T,h0,h3⟩:=hl
 obtain ⟨F,h1,h2⟩:=bW.un hR h0 hv
 refine ⟨F,h1,fun i hi=>?_⟩
 obtain ⟨u,e,hu⟩:=(h2 i hi).one
 exact ⟨u,e,(h3 i hi).un hR hu⟩
theorem iF.un (hR:Rel N w0 φ σ w) {l:List fK} {v:B} {cv:Value} (hl:iF p σ.h v l) (hv:RB φ v cv):y7 w (InW w) cv l:=by
 obtain ⟨T,h0,h3⟩:=hl
 obtain ⟨F,h1,h2⟩:=bW.un hR h0 hv
 refine ⟨F,h1,fun i hi=>?_⟩
 obtain ⟨u,e,hu⟩:=(h2 i hi).one
 exact ⟨u,e,(h3 i hi).un hR hu⟩
theorem qY.un (hR:Rel N w0 φ σ w) {l:List qN} {v:B} {cv:Value} (hl:qY p σ.h v l) (hv:RB φ v cv):Uf w (InW w) cv l:=by
 obtain ⟨C,A,h0,h3⟩:=hl
 obtain ⟨F,h1,h2⟩:=bW.un hR h0 hv
 refine ⟨F,h1,fun i hi=>?_⟩
 have:=h2 i hi
 have h4:=h3 i hi
 match hF:F i,this with
 | [a,b,c,d,e],⟨ha,hb,hc,hd,he,_⟩ =>
  have ha:a=_:=ha
  have hb:b=_:=hb
  have hc:c=_:=hc
  subst ha hb hc
  exact ⟨d,e,rfl,h4.1.un hR hd,h4.2.un hR he⟩
theorem iR.un (hR:Rel N w0 φ σ w) {l:List oV} {v:B} {cv:Value} (hl:iR p σ.h v l) (hv:RB φ v cv):Ug w (InW w) cv l:=by
 obtain ⟨L,h0,h3⟩:=hl
 obtain ⟨F,h1,h2⟩:=bW.un hR h0 hv
 refine ⟨F,h1,fun i hi=>?_⟩
 have:=h2 i hi
 have h4:=h3 i hi
 match hF:F i,this with
 | [a,b,c,d],⟨ha,hb,hc,hd,_⟩ =>
  have ha:a=_:=ha
  have hb:b=_:=hb
  have hc:c=_:=hc
  subst ha hb hc
  exact ⟨d,rfl,h4.un hR hd⟩
theorem qB.un (hR:Rel N w0 φ σ w) {g:gK} {ev dv:B} {cv:Value} (hg:qB p σ.h ev dv g) (hv:RV φ (.agg [ev,dv]) cv):Gw w (InW w) cv g:=by
 obtain ⟨r,rfl,hr⟩:=hv
 obtain ⟨l⟩:=r
 match l,hr with
 | [a,b],⟨ha,hb,_⟩=>exact ⟨a,b,rfl,hg.e.un hR ha,hg.d.un hR hb⟩
end
noncomputable section
open Classical in
def aeF (args:List V) (σ:St):Option (V×St):=match args with
 | [.agg [ev,dv]]=>if h : ∃ g,qB (fun _=>True) σ.h ev dv g∧vN 134217728 g then some (.c (.int .i64 (qO (Classical.choose h))),σ) else none
 | _=>none
end
theorem aiI {p:Nat→Prop} {σ:St} {ev dv:B} {g:gK} (hg:qB p σ.h ev dv g) (hs:vN 134217728 g):aeF [.agg [ev,dv]] σ=some (.c (.int .i64 (qO g)),σ):=by
 have h : ∃ g,qB (fun _=>True) σ.h ev dv g∧vN 134217728 g:=⟨g,hg.keep (fun _ _=>rfl) fun _ _=>trivial,hs⟩
 unfold aeF
 dsimp only
 rw [dif_pos h,(Classical.choose_spec h).1.uniq hg]
theorem aeG {args:List V} {σ σ' : St} {v:V} (h:aeF args σ=some (v,σ')):σ' = σ∧∃ ev dv g,args=[.agg [ev,dv]]∧v = .c (.int .i64 (qO g))∧qB (fun _=>True) σ.h ev dv g∧vN 134217728 g:=by
 unfold aeF at h
 split at h
 ·next ev dv =>
  split at h
  ·next hx=>cases h;exact ⟨rfl,ev,dv,_,rfl,rfl,Classical.choose_spec hx⟩
  ·cases h
 ·cases h
end Go.Proofs.Xe
namespace Go.Proofs.Ins
open Go.RowKit
def V8.v (v:V8):Value:=.agg #[.int .i64 v.p,.bool v.a.n,.string v.a.s,.string v.a.d,.bool v.k.n,.string v.k.s,.string v.k.d,.bool v.x]
def V8.fits (v:V8) (k:Nat):Prop:=v.a.fits k∧v.k.fits k
theorem Hz (r:R3) (w:World) (h:r.fits 268435456) :
  Calls Tryz.prog 12 #[.agg #[.bool r.n,.string r.s,.string r.d]] w fun e w'=>e = .returned (.int .i64 (sg r.q))∧Below w.heap.size w w':=Jh r.n r.s r.d w h.1 h.2
def Qe (p:Nat→Bool) (n:Nat):Bool:=(List.range n).any p
theorem JW {p:Nat→Bool} {n:Nat} (h : ∀ i,i<n→p i=false):Qe p n=false:=by
 unfold Qe;rw [List.any_eq_false];intro x hx;rw [h x (by simpa using hx)];simp
theorem NZ {p:Nat→Bool} {n i:Nat} (hi:i<n) (h:p i=true):Qe p n=true:=by
 unfold Qe;rw [List.any_eq_true];exact ⟨i,by simpa using hi,h⟩
def ap5 (w:World) (b:Bool) (e:Ending) (w' : World):Prop:=∃ i:Int,e = .returned (.int .i64 i)∧decide (0≤i)=b∧Below w.heap.size w w'

theorem nZ {p:Nat→Prop} {k:Nat} (h : ∀ i,i<k→p i) (h2:p k) : ∀ i,i<k+1→p i:=fun i hi=>by
 by_cases e:i=k
 ·rw [e];exact h2
 ·exact h i jb
theorem Sl.cellAt {w w' : World} {p:Nat→Prop} {sz n:Nat} {a:Option Addr} {cap:Nat} {G:Nat→List Value} (h:Sl w p sz (.slice a n cap) n G) {b off:Nat} (ha:a=some ⟨b,off,none⟩) (k:Below w.heap.size w w') {i j:Nat} (hi:i<n) (hj:j<sz) :
  w'.cell? ⟨b,off+i*sz+j,none⟩=(G i)[j]?:=by
 obtain ⟨b',off',ha',-,hl,hr⟩:=h.get jb
 rw [ha] at ha'
 simp only [Option.some.injEq,Addr.mk.injEq,and_true] at ha'
 obtain ⟨rfl,rfl⟩:=ha'
 exact (hr.below k hl) i j hi hj
end Go.Proofs.Ins
