/- The bJ: operations that only read are what it says. -/
import Derived.Test.YtjonjhcaniinaaaGreatDoorZ9
import Derived.Maps.OwnSet
import Derived.DeepKeys4
import Derived.MapViews
import Derived.Maps.Views
set_option linter.all false
namespace Go.Proofs.Xe
open Go.RowKit Go.Proofs.Ins
class mW (P:Program):Prop where
 eq:P=Tryz.prog
instance:mW Tryz.prog:=⟨rfl⟩
namespace ML
theorem laidOut:laidOutB Tryz.prog=true:=by kernel_rfl
theorem row:(102:TypeId)<Tryz.prog.types.size:=of_decide_eq_true (by kernel_rfl)
theorem wide:(match Tryz.prog.underlying 102 with|some (.array _ _)|some (.struct _)=>true|_=>false)=true:=by kernel_rfl
set_option maxRecDepth 100000 in
theorem law:WideMaps.KeyLaw Tryz.prog 102:=deep_law_laid laidOut (m:=3) jb row (by kernel_rfl) wide
theorem keyed:Maps.Keyed Tryz.prog 102:=Maps.Keyed.of_law law
theorem wC (a b:Int) (ha:(Lit.int .i64 a).wf=true) (hb:(Lit.int .i64 b).wf=true) : ∃ l,keyOf Tryz.prog 102 (.agg #[.int .i64 a,.int .i64 b])=some l:=by
 have h1:Tryz.prog.keyType 102=true:=by kernel_rfl
 have h2:(Value.agg #[.int .i64 a,.int .i64 b]).formed Tryz.prog 102=true:=by kernel_rfl
 have ald:Tryz.prog.cellsOf 102=2:=by kernel_rfl
 have c3:Tryz.prog.cellsOf 3=1:=by kernel_rfl
 have hpos:0<Tryz.prog.types.size:=of_decide_eq_true (by kernel_rfl)
 obtain ⟨m,hm⟩ : ∃ m,Tryz.prog.types.size=m+1:=⟨Tryz.prog.types.size - 1,jb⟩
 unfold keyOf
 rw [Tryz.underlying102]
 simp only [h1,h2,Value.cells,Bool.and_self,if_true,hm]
 simp [Program.keyLits,Tryz.underlying102,Tryz.underlying3,ald,c3,ha,hb]
def kv (x:Int×Int):Value:=.agg #[.int .i64 x.1,.int .i64 x.2]
def eqP (x y:Int×Int):Bool:=x.1 == y.1 && x.2 == y.2
def Pz (S:List (Int×Int)) (x:Int×Int):Bool:=S.any fun y=>eqP y x
theorem aaB (S:List (Int×Int)) (x y:Int×Int):Pz (S ++ [x]) y=(Pz S y || eqP x y):=by
 unfold Pz;rw [List.any_append];simp
theorem mX {P:Program} {e:TypeId} (he:P.underlying e=some .bool) {v:Value} {z:DataW Unit×List MemPlace} {b:Bool} (h:plainElem P e v=some z) (hz:z.1 = .lit (.bool b)):v = .bool b:=by
 unfold plainElem at h
 rw [he] at h
 cases v with
 | bool x =>
  have h2:=Option.some.inj h
  rw [← h2] at hz
  have h3:=Lit.bool.inj (DataW.lit.inj hz)
  rw [h3]
 | _=>cases h
end ML
open ML
def xX (w:World) (b:Nat) (S:List (Int×Int)):Prop :=
 ∃ n D,n≤S.length∧w.ownsMap (H:=Unit) Tryz.prog 102 (plainElem Tryz.prog 4) b n D∧∀ (x:Int×Int) (l:Lit),keyOf Tryz.prog 102 (kv x)=some l→D.atKey l (.lit (.bool false)) = .lit (.bool (Pz S x))
theorem xX.made (w:World):xX (w.alloc (.map #[] 0)) w.heap.size [] :=
 ⟨0,.map [],jp,World.ownsMap_made _ _ _ _,fun x l _=>by simp [DataW.atKey,Pz]⟩
theorem xX.keep {w w' : World} {b:Nat} {S:List (Int×Int)} (h:xX w b S) (hb:w'.heap[b]?=w.heap[b]?):xX w' b S:=by
 obtain ⟨n,D,h1,⟨es,clock,h2,h3⟩,h4⟩:=h
 exact ⟨n,D,h1,⟨es,clock,hb.trans h2,h3⟩,h4⟩
theorem ML.Jr (w:World):(zeroValue 4).run Tryz.prog w = .ok (.bool false) w:=by kernel_rfl
theorem xX.look {w:World} {b:Nat} {S:List (Int×Int)} (h:xX w b S) (x:Int×Int) (he:(Lit.int .i64 x.1).wf=true) (hk:(Lit.int .i64 x.2).wf=true) :
  (Instr.lookup 104 (.map (some b)) (kv x) false).run Tryz.prog w = .ok (.bool (Pz S x)) w:=by
 obtain ⟨n,D,h1,h2,h3⟩:=h
 obtain ⟨l,hl⟩:=wC x.1 x.2 he hk
 obtain ⟨v,ps,hr,hv⟩:=h2.lookup keyed Tryz.underlying104 (Jr w) (plainElem_bool Tryz.underlying4 false) hl
 unfold kv
 rw [hr,mX Tryz.underlying4 hv (h3 x l hl)]
theorem xX.store {w:World} {b:Nat} {S:List (Int×Int)} (h:xX w b S) (x:Int×Int) (he:(Lit.int .i64 x.1).wf=true) (hk:(Lit.int .i64 x.2).wf=true) (hS:S.length≤1000000) :
  ∃ w',(Instr.mapUpdate 104 (.map (some b)) (kv x) (.bool true)).run Tryz.prog w = .ok () w'∧xX w' b (S ++ [x])∧w.grownBy w' (some b):=by
 obtain ⟨n,D,h1,h2,h3⟩:=h
 obtain ⟨l,hl⟩:=wC x.1 x.2 he hk
 obtain ⟨w',hr,ho,hg⟩:=h2.update keyed Tryz.underlying104 (by unfold maxLen;omega) hl (plainElem_bool Tryz.underlying4 true)
 refine ⟨w',hr,⟨n+1,_,by simp;omega,ho,fun y l' hl'=>?_⟩,hg⟩
 rw [aaB]
 by_cases e:l' = l
 ·subst e
  have e2:=keyed.inj hl hl'
  have e3:eqP x y=true:=by
   unfold kv at e2
   simp at e2
   unfold eqP;simp [e2]
  rw [e3,Bool.or_true,Maps.atKey_put_same h2.isMap (keyed.key hl)]
 ·rw [Maps.atKey_put_other e,h3 y l' hl']
  have e3:eqP x y=false:=by
   cases e4:eqP x y
   ·rfl
   ·exfalso
    unfold eqP at e4
    simp at e4
    have:kv x=kv y:=by unfold kv;rw [e4.1,e4.2]
    have h5:keyOf Tryz.prog 102 (kv x)=some l:=hl
    rw [this,hl'] at h5
    exact e (Option.some.inj h5)
  rw [e3,Bool.or_false]
def xY:List (Int×Int)→List B
 | []=>[]
 | x::l=>.int .i64 x.1 :: .int .i64 x.2::xY l
theorem WA (l:List (Int×Int)) (x:Int×Int):xY (l ++ [x])=xY l ++ [.int .i64 x.1,.int .i64 x.2]:=by
 induction l with
 | nil=>rfl
 | cons y l ih=>simp [xY,ih]
theorem PD (l:List (Int×Int)):(xY l).length=2*l.length:=by
 induction l with
 | nil=>rfl
 | cons y l ih=>simp [xY,ih];omega
theorem YI {a b:Int} : eqI a b=(a == b):=by
 have hn : ∀ m n:Nat,Nat.beq m n=decide (m=n):=fun m n=>by
  by_cases h:m=n
  ·subst h;simp
  ·have h1:Nat.beq m n=false:=by
    cases hb:Nat.beq m n with
    | true=>exact absurd (Nat.eq_of_beq_eq_true hb) h
    | false=>rfl
   rw [h1,decide_eq_false h]
 cases a with
 | ofNat m=>cases b with
  | ofNat n=>show Nat.beq m n=decide (Int.ofNat m=Int.ofNat n);rw [hn];simp;omega
  | negSucc n=>rfl
 | negSucc m=>cases b with
  | ofNat n=>rfl
  | negSucc n=>show Nat.beq m n=decide (Int.negSucc m=Int.negSucc n);rw [hn];simp
theorem aaC (l:List (Int×Int)) (x:Int×Int):hasB (xY l) x.1 x.2=Pz l x:=by
 induction l with
 | nil=>rfl
 | cons y l ih =>
  unfold xY hasB Pz
  rw [List.any_cons,YI,YI,ih]
  unfold eqP
  cases (y.1 == x.1 && y.2 == x.2) <;> rfl
theorem PE {n:Int} (h:LP .i64 n=true):(Lit.int .i64 n).wf=true:=by
 have hr : -9223372036854775808≤n∧n≤9223372036854775807:=by
  cases n with
  | ofNat m=>have:=Nat.le_of_ble_eq_true h;simp only [Int.ofNat_eq_natCast];omega
  | negSucc m=>have:=Nat.le_of_ble_eq_true h;omega
 simp only [Lit.wf,Bool.and_eq_true,decide_eq_true_eq]
 have h1:IntKind.i64.min = -9223372036854775808:=by decide +kernel
 have h2:IntKind.i64.max=9223372036854775807:=by decide +kernel
 rw [h1,h2]
 exact hr
end Go.Proofs.Xe
namespace Go.Proofs.Xe
open Go.RowKit Go.Proofs.Ins
abbrev Ph:=Nat→Option (Nat×Nat)
def adi (C o n K:Nat):Cap→Prop
 | .ex k=>K=k
 | .opn=>o=0∧K=C
 | .any=>True
def RB (φ:Ph):B→Value→Prop
 | .int k n,v=>v = .int k n
 | .bool b,v=>v = .bool b
 | .str s,v=>v = .string s
 | .nat n,v=>v = .string (bn n)
 | .ptr b o,v=>∃ p,φ b=some p∧v = .pointer (some ⟨p.1,o,none⟩)
 | .Px,v=>v = .pointer none
 | .sl b o n c,v=>(∃ p K,φ b=some p∧v = .slice (some ⟨p.1,o,none⟩) n K∧n≤K∧K≤9223372036854775807∧adi p.2 o n K c)∨(n=0∧c = .any∧∃ a K,v = .slice (some a) 0 K∧K≤9223372036854775807)
 | .aY,v=>v = .slice none 0 0
 | .mp b,v=>∃ p,φ b=some p∧v = .map (some p.1)
 | .any,v=>v.oneCell' = true
def kL (φ:Ph):List B→List Value→Prop
 | [],[]=>True
 | x::l,v::r=>RB φ x v∧kL φ l r
 | _,_=>False
def RV (φ:Ph):V→Value→Prop
 | .c x,v=>RB φ x v
 | .agg l,v=>∃ r,v = .agg r∧kL φ l r.toList
 | .fn f caps,v=>∃ r,v = .func (.func f) #[] r∧kL φ caps r.toList
 | .Jl,v=>v = .nilFunc
 | .tnil,v=>v = .tuple #[]
 | .cZ a r,v=>∃ x xs,v = .tuple (x::xs).toArray∧RV φ a x∧RV φ r (.tuple xs.toArray)
 | .und,_=>True
def wE (φ:Ph):List V→List Value→Prop
 | [],[]=>True
 | x::l,v::r=>RV φ x v∧wE φ l r
 | _,_=>False
def Ext (n:Nat) (φ φ' : Ph):Prop:=∀ b,b<n→φ' b=φ b
def aoN (φ:Ph) (k:Bk) (p:Nat×Nat) (w:World):Prop :=
 ∃ cs T,w.heap[p.1]?=some (.cells cs T (0,0))∧kL φ k.cells (cs.toList.take k.cells.length)∧k.cells.length≤cs.size ∧
  ∀ e t,k.opn=some (e,t)→T=t∧cs.size=p.2*e∧p.2≤maxLen
def aoO (k:Bk) (p:Nat×Nat) (w:World):Prop:=∃ l,k.cells=xY l∧xX w p.1 l
def arJ (φ:Ph) (k:Bk) (p:Nat×Nat) (w:World):Prop:=∀ j x,k.cells[j]?=some x→x.kn=true→∃ v,w.cell? ⟨p.1,j,none⟩=some v∧RB φ x v
def Ez (φ:Ph) (k:Bk) (p:Nat×Nat) (w:World):Prop:=(k.pl=true∧aoN φ k p w)∨(k.pl=false∧k.rd=false∧aoO k p w)∨(k.pl=false∧k.rd=true∧arJ φ k p w)
theorem Ez.plain {φ:Ph} {k:Bk} {p:Nat×Nat} {w:World} (h:Ez φ k p w) (hk:k.pl=true):aoN φ k p w:=by
 rcases h with h|h|h
 ·exact h.2
 ·rw [hk] at h;cases h.1
 ·rw [hk] at h;cases h.1
theorem Ez.map {φ:Ph} {k:Bk} {p:Nat×Nat} {w:World} (h:Ez φ k p w) (hk:k.rd=false):aoO k p w:=by
 rcases h with ⟨h,_⟩|h|h
 ·exfalso
  unfold Bk.pl at h;unfold Bk.rd at hk
  split at h
  ·cases h
  ·next hne =>
  split at hk
  ·next t e=>exact hne _ e
  ·cases hk
 ·exact h.2.2
 ·rw [hk] at h;cases h.2.1
theorem ahh {c:List B} : (⟨c,none⟩:Bk).pl=true:=rfl
theorem Dj {c:List B} {e t:Nat} (h:0<e):(⟨c,some (e,t)⟩:Bk).pl=true:=by
 cases e with
 | zero=>omega
 | succ e=>rfl
theorem adk {c:List B} {t:Nat} : (⟨c,some (0,t)⟩:Bk).pl=false:=rfl
theorem Js {c:List B} : (⟨c,some (0,0)⟩:Bk).rd=false:=rfl
structure Rel (N:Nat) (w0:World) (φ:Ph) (σ:St) (w:World):Prop where
 n0:N≤w0.heap.size
 bel:Below N w0 w
 inj : ∀ b b' p p',φ b=some p→φ b' = some p'→p.1=p'.1→N≤p.1→(σ.h.get b).isSome=true→(σ.h.get b').isSome=true→b=b'
 lo : ∀ b p,φ b=some p→p.1<w.heap.size
 fz : ∀ b k p,σ.h.get b=some k→φ b=some p→p.1<N→k.pl=false∧k.rd=true
 blk : ∀ b k p,σ.h.get b=some k→φ b=some p→Ez φ k p w
 ah : ∀ b,σ.ah≤b→φ b=none∧σ.h.get b=none
def RT (φ:Ph) (tm:Tr V) (a:Act):Prop:=∀ t v,tm.get t=some v→RV φ v (a.tmps.getD t undef)
def Old (n:Nat) (φ:Ph):Prop:=∀ b,n≤b→φ b=none
theorem Rel.old {N:Nat} {w0 w:World} {φ:Ph} {σ:St} (h:Rel N w0 φ σ w):Old σ.ah φ:=fun b hb=>(h.ah b hb).1
theorem Ext.some {n:Nat} {φ φ' : Ph} (h:Ext n φ φ') (ho:Old n φ) {b:Nat} {p:Nat×Nat} (hb:φ b=some p):φ' b=some p:=by
 by_cases hlt:b<n
 ·rw [h b hlt];exact hb
 ·rw [ho b jb] at hb;cases hb
theorem RB.ext {n:Nat} {φ φ' : Ph} (h:Ext n φ φ') (ho:Old n φ) {x:B} {v:Value} (hv:RB φ x v):RB φ' x v:=by
 cases x <;> simp only [RB] at hv ⊢ <;> try exact hv
 case ptr b o=>obtain ⟨p,hp,e⟩:=hv;exact ⟨p,h.some ho hp,e⟩
 case sl b o n c =>
  rcases hv with ⟨p,K,hp,e,r⟩|hv
  ·exact .inl ⟨p,K,h.some ho hp,e,r⟩
  ·exact .inr hv
 case mp b=>obtain ⟨p,hp,e⟩:=hv;exact ⟨p,h.some ho hp,e⟩
theorem kL.ext {n:Nat} {φ φ' : Ph} (h:Ext n φ φ') (ho:Old n φ) : ∀ {l:List B} {r:List Value},kL φ l r→kL φ' l r
 | [],[],_=>trivial
 | _::_,_::_,hv=>⟨hv.1.ext h ho,kL.ext h ho hv.2⟩
 | [],_::_,hv=>hv.elim
 | _::_,[],hv=>hv.elim
theorem RV.ext {n:Nat} {φ φ' : Ph} (h:Ext n φ φ') (ho:Old n φ) : ∀ {x:V} {v:Value},RV φ x v→RV φ' x v
 | .c _,_,hv=>RB.ext h ho hv
 | .agg _,_,⟨r,e,hr⟩=>⟨r,e,hr.ext h ho⟩
 | .fn _ _,_,⟨r,e,hr⟩=>⟨r,e,hr.ext h ho⟩
 | .Jl,_,hv=>hv
 | .tnil,_,hv=>hv
 | .cZ _ _,_,⟨x,xs,e,h1,h2⟩=>⟨x,xs,e,h1.ext h ho,h2.ext h ho⟩
 | .und,_,_=>trivial
theorem RT.ext {n:Nat} {φ φ' : Ph} (h:Ext n φ φ') (ho:Old n φ) {tm:Tr V} {a:Act} (hv:RT φ tm a):RT φ' tm a:=fun t v ht=>(hv t v ht).ext h ho
theorem Ext.refl (n:Nat) (φ:Ph):Ext n φ φ:=fun _ _=>rfl
theorem Ext.trans {n m:Nat} {φ φ' φ'' : Ph} (h:Ext n φ φ') (h' : Ext m φ' φ'') (hnm:n≤m):Ext n φ φ'':=fun b hb=>(h' b jb).trans (h b hb)
theorem kL.length {φ:Ph} : ∀ {l:List B} {r:List Value},kL φ l r→l.length=r.length
 | [],[],_=>rfl
 | _::_,_::_,hv=>by simp [kL.length hv.2]
 | [],_::_,hv=>hv.elim
 | _::_,[],hv=>hv.elim
theorem kL.drop {φ:Ph} : ∀ (n:Nat) {l:List B} {r:List Value},kL φ l r→kL φ (l.drop n) (r.drop n)
 | 0,_,_,h=>h
 | n+1,[],[],_=>trivial
 | n+1,_::_,_::_,hv=>kL.drop n hv.2
 | _+1,[],_::_,hv=>hv.elim
 | _+1,_::_,[],hv=>hv.elim
theorem kL.take {φ:Ph} : ∀ (n:Nat) {l:List B} {r:List Value},kL φ l r→kL φ (l.take n) (r.take n)
 | 0,_,_,h=>by simp [kL]
 | n+1,[],[],_=>trivial
 | n+1,_::_,_::_,hv=>⟨hv.1,kL.take n hv.2⟩
 | _+1,[],_::_,hv=>hv.elim
 | _+1,_::_,[],hv=>hv.elim
theorem kL.append {φ:Ph} : ∀ {l:List B} {r:List Value} {l' : List B} {r' : List Value},kL φ l r→kL φ l' r'→kL φ (l ++ l') (r ++ r')
 | [],[],_,_,_,h=>h
 | _::_,_::_,_,_,hv,h=>⟨hv.1,kL.append hv.2 h⟩
 | [],_::_,_,_,hv,_=>hv.elim
 | _::_,[],_,_,hv,_=>hv.elim
theorem kL.get {φ:Ph} : ∀ {l:List B} {r:List Value} (j:Nat) (x:B),kL φ l r→l[j]?=some x→∃ v,r[j]?=some v∧RB φ x v
 | _::_,v::_,0,_,hv,h=>by cases h;exact ⟨v,rfl,hv.1⟩
 | _::l,_::r,j+1,x,hv,h=>kL.get (l:=l) (r:=r) j x hv.2 (by simpa using h)
 | [],_,_,_,_,h=>by simp at h
 | _::_,[],_,_,hv,_=>hv.elim
theorem kL.oneCell {φ:Ph} : ∀ {l:List B} {r:List Value},kL φ l r→∀ v∈r,v.oneCell' = true
 | [],[],_,_,h=>by cases h
 | x::l,v::r,hv,u,h=>by
  rcases List.mem_cons.mp h with rfl|h
  ·have:=hv.1
   cases x <;> simp only [RB] at this
   case ptr=>obtain ⟨p,-,e⟩:=this;rw [e];rfl
   case sl=>rcases this with ⟨p,K,-,e,-⟩|⟨-,-,p,K,e,-⟩ <;> (rw [e];rfl)
   case mp=>obtain ⟨p,-,e⟩:=this;rw [e];rfl
   case any=>exact this
   all_goals (rw [this];rfl)
  ·exact kL.oneCell hv.2 u h
 | [],_::_,hv,_,_=>hv.elim
 | _::_,[],hv,_,_=>hv.elim
theorem RV.cells {φ:Ph} {x:V} {v:Value} {l:List B} (h:RV φ x v) (hl:x.cells=some l):kL φ l v.cells.toList:=by
 cases x <;> simp only [V.cells,Option.some.injEq,reduceCtorEq] at hl
 case c b =>
  subst hl
  have h1:RB φ b v:=h
  have hc:v.cells = #[v]:=by
   cases b <;> simp only [RB] at h1
   case ptr=>obtain ⟨p,-,e⟩:=h1;rw [e];rfl
   case sl=>rcases h1 with ⟨p,K,-,e,-⟩|⟨-,-,p,K,e,-⟩ <;> (rw [e];rfl)
   case mp=>obtain ⟨p,-,e⟩:=h1;rw [e];rfl
   case any=>cases v <;> first|rfl|(exfalso;revert h1;unfold Value.oneCell';simp;done)
   all_goals (rw [h1];rfl)
  rw [hc]
  exact ⟨h1,trivial⟩
 case agg l' =>
  subst hl
  obtain ⟨r,e,hr⟩:=h
  rw [e]
  exact hr
theorem PG {φ:Ph} : ∀ (o:Nat) (l vs l' : List B) (r rs:List Value),uT l o vs=some l'→kL φ l r→kL φ vs rs→o+vs.length≤l.length∧kL φ l' (r.take o ++ rs ++ r.drop (o+rs.length))
 | 0,l,vs,l',r,rs,h,hl,hv=>by
  unfold uT at h
  cases hb:Nat.ble vs.length l.length with
  | false=>rw [hb] at h;cases h
  | true =>
   rw [hb] at h
   cases h
   have:=hl.drop vs.length
   rw [hv.length] at this
   exact ⟨by simpa using Nat.le_of_ble_eq_true hb,by simpa using hv.append (by rw [hv.length];exact this)⟩
 | o+1,[],vs,l',r,rs,h,hl,hv=>by cases h
 | o+1,x::l,vs,l',[],rs,h,hl,hv=>hl.elim
 | o+1,x::l,vs,l',v::r,rs,h,hl,hv=>by
  unfold uT at h
  cases hw:uT l o vs with
  | none=>rw [hw] at h;cases h
  | some l2 =>
   rw [hw] at h
   cases h
   obtain ⟨h1,h2⟩:=PG o l vs l2 r rs hw hl.2 hv
   refine ⟨by simp only [List.length_cons];omega,?_⟩
   rw [show o+1+rs.length=(o+rs.length)+1 by omega]
   exact ⟨hl.1,h2⟩
theorem RV.tm {φ:Ph} {tm:Tr V} {a:Act} (h:RT φ tm a) (i:Nat):RV φ (tm.aj i) (a.tmps.getD i undef):=by
 unfold Tr.aj
 cases ht:tm.get i with
 | none=>trivial
 | some v=>exact h i v ht
section
variable {N:Nat} {w0 w:World} {φ:Ph} {σ:St}
theorem Rel.hi (h:Rel N w0 φ σ w) {b:Nat} {k:Bk} {p:Nat×Nat} (hk:σ.h.get b=some k) (hp:φ b=some p) (hr:k.pl=true∨k.rd=false):N≤p.1:=by
 rcases Nat.lt_or_ge p.1 N with hlt|hge
 ·obtain ⟨a,c⟩:=h.fz b k p hk hp hlt
  rcases hr with hr|hr
  ·rw [a] at hr;cases hr
  ·rw [c] at hr;cases hr
 ·exact hge
theorem Rel.read (h:Rel N w0 φ σ w) {b:Nat} {k:Bk} {p:Nat×Nat} (hk:σ.h.get b=some k) (hrd:k.rd=true) (hp:φ b=some p) {j:Nat} {x:B} (hx:k.cells[j]?=some x) (hkn:x.kn=true) :
  ∃ v,w.cell? ⟨p.1,j,none⟩=some v∧RB φ x v:=by
 rcases h.blk b k p hk hp with ⟨_,cs,T,hc,hr,hl,-⟩|h2|h2
 ·obtain ⟨v,hv,hR⟩:=hr.get j x hx
  refine ⟨v,?_,hR⟩
  rw [cell_of_row w p.1 j cs T (0,0) hc]
  rw [List.getElem?_take] at hv
  split at hv
  ·simpa using hv
  ·cases hv
 ·rw [hrd] at h2;cases h2.2.1
 ·exact h2.2.2 j x hx hkn
theorem Rel.drew (h:Rel N w0 φ σ w):Rel N w0 φ σ w.drew :=
 ⟨h.n0,h.bel.drew,h.inj,h.lo,h.fz,h.blk,h.ah⟩
theorem Rel.drawn (h:Rel N w0 φ σ w):Rel N w0 φ σ { w with drawn:=w.drawn+1 }:=h.drew
theorem Rel.size (h:Rel N w0 φ σ w):N≤w.heap.size:=Nat.le_trans h.n0 h.bel.size
end
def kB:Value→B→Bool
 | .int k n,.int j m=>decide (k=j) && decide (n=m)
 | .bool a,.bool b=>a == b
 | .string s,.str t=>decide (s=t)
 | .pointer none,.Px=>true
 | .slice none 0 0,.aY=>true
 | _,_=>false
def kBs:List Value→List B→Bool
 | [],[]=>true
 | v::r,x::l=>kB v x && kBs r l
 | _,_=>false
def kV:Value→V→Bool
 | .agg r,.agg l=>kBs r.toList l
 | .nilFunc,.Jl=>true
 | v,.c x=>kB v x
 | _,_=>false
def uq:Operand→O→Bool
 | .tmp t,.t i=>Nat.beq t i
 | .const v,.k x=>kV v x
 | .func f,.k (.fn g [])=>Nat.beq f g
 | _,_=>false
def WB:List Operand→List O→Bool
 | [],[]=>true
 | x::l,y::r=>uq x y && WB l r
 | _,_=>false
theorem akf {φ:Ph} {v:Value} {x:B} (h:kB v x=true):RB φ x v:=by
 unfold kB at h
 split at h <;> simp only [RB]
 ·simp only [Bool.and_eq_true,decide_eq_true_eq] at h;rw [h.1,h.2]
 ·rw [eq_of_beq h]
 ·rw [of_decide_eq_true h]
 ·cases h
theorem Hr {φ:Ph} : ∀ {r:List Value} {l:List B},kBs r l=true→kL φ l r
 | [],[],_=>trivial
 | _::_,_::_,h=>by
  unfold kBs at h
  rw [Bool.and_eq_true] at h
  exact ⟨akf h.1,Hr h.2⟩
 | [],_::_,h=>by cases h
 | _::_,[],h=>by cases h
theorem aoP {φ:Ph} {v:Value} {x:V} (h:kV v x=true):RV φ x v:=by
 unfold kV at h
 split at h
 ·exact ⟨_,rfl,Hr h⟩
 ·rfl
 ·exact akf h
 ·cases h
theorem bV {φ:Ph} {tm:Tr V} {a:Act} {x:Operand} {y:O} (h:uq x y=true) (ht:RT φ tm a):RV φ (y.ev tm) (a.eval x):=by
 unfold uq at h
 split at h
 ·next t i =>
  have:t=i:=Nat.eq_of_beq_eq_true h
  subst this
  exact RV.tm ht t
 ·exact aoP h
 ·next f g =>
  have:f=g:=Nat.eq_of_beq_eq_true h
  subst this
  exact ⟨#[],rfl,trivial⟩
 ·cases h
theorem S9 {φ:Ph} {tm:Tr V} {a:Act} (ht:RT φ tm a) : ∀ {l:List Operand} {r:List O},WB l r=true→wE φ (r.map (·.ev tm)) (l.map a.eval)
 | [],[],_=>trivial
 | _::_,_::_,h=>by
  unfold WB at h
  rw [Bool.and_eq_true] at h
  exact ⟨bV h.1 ht,S9 ht h.2⟩
 | [],_::_,h=>by cases h
 | _::_,[],h=>by cases h
def Jt:Option Operand→Option O→Bool
 | none,none=>true
 | some x,some y=>uq x y
 | _,_=>false
def aoQ:TypeDesc→Bool
 | .struct _|.array _ _=>true
 | _=>false
def aaD (P:Program) (t:TypeId) (n:Nat) (g:Bool):Bool :=
 match P.info? t,P.underlying t with
 | some i,some d=>Nat.beq i.size n && (aoQ d == g) && (g || Nat.beq n 1)
 | _,_=>false
theorem NG {P:Program} {t:TypeId} {n:Nat} {g:Bool} (h:aaD P t n g=true) (w:World) :
  (sizeOf t).run P w = .ok n w∧(isAgg t).run P w = .ok g w∧(g=true∨n=1):=by
 unfold aaD at h
 split at h
 ·next i d hi hd =>
  simp only [Bool.and_eq_true,Bool.or_eq_true] at h
  obtain ⟨⟨h1,h2⟩,h3⟩:=h
  have h1:=Nat.eq_of_beq_eq_true h1
  have h2:=eq_of_beq h2
  refine ⟨by simp [sizeOf,typeInfo,hi,h1],?_,h3.imp id Nat.eq_of_beq_eq_true⟩
  simp only [isAgg,Sem.run_bind,run_underlying hd,Result.andThen_ok]
  rw [← h2]
  cases d <;> rfl
 ·cases h
def PI (P:Program) (t:TypeId) (n:Nat):Bool:=match P.info? t with|some i=>Nat.beq i.size n|none=>false
theorem wF {P:Program} {t:TypeId} {n:Nat} (h:PI P t n=true) (w:World):(sizeOf t).run P w = .ok n w:=by
 unfold PI at h
 split at h
 ·next i hi=>simp [sizeOf,typeInfo,hi,Nat.eq_of_beq_eq_true h]
 ·cases h
section
variable {P:Program} {N:Nat} {w0 w:World} {φ:Ph} {σ:St} {tm:Tr V} {a:Act}
theorem Rel.reads (hR:Rel N w0 φ σ w) {b:Nat} {k:Bk} {p:Nat×Nat} (hk:σ.h.get b=some k) (hrd:k.rd=true) (hp:φ b=some p) : ∀ (r:List B) (o:Nat),(∀ j x,r[j]?=some x→k.cells[o+j]?=some x)→r.all B.kn=true →
  ∃ xs,kL φ r xs∧∀ j u,xs[j]?=some u→w.cell? ⟨p.1,o+j,none⟩=some u
 | [],o,_,_=>⟨[],trivial,fun j u h=>by simp at h⟩
 | x::r,o,h,ha=>by
  rw [List.all_cons,Bool.and_eq_true] at ha
  obtain ⟨v,hv,hb⟩:=hR.read hk hrd hp (h 0 x rfl) ha.1
  obtain ⟨xs,h1,h2⟩:=Rel.reads hR hk hrd hp r (o+1) (fun j y hy=>by have:=h (j+1) y (by simpa using hy);rwa [show o+(j+1)=o+1+j by omega] at this) ha.2
  refine ⟨v::xs,⟨hb,h1⟩,fun j u hu=>?_⟩
  cases j with
  | zero=>cases hu;exact hv
  | succ j =>
   have:=h2 j u (by simpa using hu)
   rwa [show o+1+j=o+(j+1) by omega] at this
theorem vJ {l:List B} {o n j:Nat} {x:B} (h:((l.drop o).take n)[j]?=some x):l[o+j]?=some x:=by
 rw [List.getElem?_take] at h
 split at h
 ·simpa using h
 ·cases h
theorem Dk (hR:Rel N w0 φ σ w) {t:TypeId} {n:Nat} {g:Bool} (ht:aaD P t n g=true) {b o:Nat} {k:Bk} {p:Nat×Nat} {v:V} (hk:σ.h.get b=some k) (hrd:k.rd=true) (hp:φ b=some p)
  (h:yw k.cells o n g=some v) : ∃ cv,(loadVar t ⟨p.1,o,none⟩).run P w = .ok cv w∧RV φ v cv:=by
 obtain ⟨h1,h2,h3⟩:=NG ht w
 unfold yw at h
 cases g with
 | true =>
  simp only at h
  cases hb:(Nat.beq ((k.cells.drop o).take n).length n && ((k.cells.drop o).take n).all B.kn) with
  | false=>rw [hb] at h;cases h
  | true =>
   rw [hb] at h
   cases h
   rw [Bool.and_eq_true] at hb
   have hb1:=Nat.eq_of_beq_eq_true hb.1
   obtain ⟨xs,hx,hxs⟩:=hR.reads hk hrd hp ((k.cells.drop o).take n) o (fun j x hj=>vJ hj) hb.2
   have h4:=run_loadCells_list (P:=P) w ⟨p.1,o,none⟩ xs fun j u hu=>by rw [Addr.add_lit];exact hxs j u hu
   rw [← hx.length,hb1] at h4
   refine ⟨_,?_,xs.toArray,rfl,hx⟩
   unfold loadVar
   simp only [Sem.run_bind,h2,Result.andThen_ok,if_true,h1,h4,Sem.run_pure]
 | false =>
  have hn:n=1:=h3.resolve_left kc
  subst hn
  simp only at h
  cases hx:k.cells.drop o with
  | nil=>rw [hx] at h;cases h
  | cons x t =>
   rw [hx] at h
   cases hkn:x.kn with
   | false=>simp only [hkn,cond_false,reduceCtorEq] at h
   | true =>
    simp only [hkn,cond_true,Option.some.injEq] at h
    subst h
    have h0:k.cells[o]?=some x:=by
     have:(k.cells.drop o)[0]?=some x:=by rw [hx];rfl
     simpa using this
    obtain ⟨u,hu,hb⟩:=hR.read hk hrd hp h0 hkn
    refine ⟨u,?_,hb⟩
    unfold loadVar
    simp only [Sem.run_bind,h2,Result.andThen_ok,Bool.false_eq_true,if_false,run_load,hu]
theorem ahi {l:List B} {r:List Value} {o n:Nat} {g:Bool} {v:V} (h:yw l o n g=some v) (hg:g=true∨n=1) (hr:kL φ l r) :
  ∃ xs,xs.length=n∧(∀ j u,xs[j]?=some u→r[o+j]?=some u)∧(g=true→RV φ v (.agg xs.toArray))∧(g=false→∃ u,xs=[u]∧RV φ v u):=by
 have hd:=(hr.drop o).take n
 unfold yw at h
 cases g with
 | true =>
  simp only at h
  cases hb:(Nat.beq ((l.drop o).take n).length n && ((l.drop o).take n).all B.kn) with
  | false=>rw [hb] at h;cases h
  | true =>
   rw [hb] at h
   cases h
   rw [Bool.and_eq_true] at hb
   have hb:=Nat.eq_of_beq_eq_true hb.1
   refine ⟨_,by rw [← hd.length];exact hb,fun j u hu=>?_,fun _=>⟨_,rfl,by simpa using hd⟩,fun h=>by cases h⟩
   rw [List.getElem?_take] at hu
   split at hu
   ·simpa using hu
   ·cases hu
 | false =>
  have hn:n=1:=hg.resolve_left kc
  subst hn
  simp only at h
  have hd0:=hr.drop o
  cases hx:l.drop o with
  | nil=>rw [hx] at h;cases h
  | cons x t =>
   rw [hx] at h hd0
   cases hkn:x.kn with
   | false=>simp only [hkn,cond_false,reduceCtorEq] at h
   | true =>
    simp only [hkn,cond_true,Option.some.injEq] at h
    subst h
    cases hy:r.drop o with
    | nil=>rw [hy] at hd0;exact hd0.elim
    | cons u t' =>
     rw [hy] at hd0
     refine ⟨[u],rfl,fun j u' hu=>?_,(fun h=>by cases h),fun _=>⟨u,rfl,hd0.1⟩⟩
     cases j with
     | zero =>
      cases hu
      have:(r.drop o)[0]?=some u:=by rw [hy];rfl
      simpa using this
     | succ j=>simp at hu
end
def arK:Operand→Bool
 | .const (.slice none 0 0)|.const (.pointer none)|.const .nilFunc=>true
 | _=>false
def Dl (pl:Nat→Option (Nat×Nat)):List (Nat×Operand)→List (Nat×Nat×O)→Bool
 | [],[]=>true
 | (i,x)::r,(o,n,y)::s=>(match pl i with|some (p,q)=>Nat.beq p o && Nat.beq q n|none=>false) && uq x y && Dl pl r s
 | _,_=>false
def placesOf (P:Program):List Field→Option (List (Nat×Nat))
 | []=>some []
 | f::r=>match P.info? f.type,placesOf P r with|some i,some l=>some ((f.offset,i.size)::l)|_,_=>none
def YJ (P:Program) (t:TypeId):Bool :=
 match P.underlying t with
 | some (.struct fs)=>(match fs.toList with
  | [f, g, h] => f.name != "_" && g.name != "_" && h.name != "_" && Nat.beq f.offset 0 && Nat.beq g.offset 1 && Nat.beq h.offset 2 &&
   (match P.underlying f.type,P.underlying g.type,P.underlying h.type with|some .bool,some .string,some .string=>true|_,_,_=>false) && !P.stoodInHeld t && !P.eqGuardType P.depth t
  | _=>false)
 | _=>false
def Tc (P:Program) (t:TypeId):Bool :=
 match P.underlying t with
 | some (.struct fs)=>(match fs.toList with
  | [f, g] => f.name != "_" && g.name != "_" && Nat.beq f.offset 0 && Nat.beq g.offset 1 &&
   (match P.underlying f.type,P.underlying g.type with|some (.int _),some (.int _)=>true|_,_=>false) && !P.stoodInHeld t && !P.eqGuardType P.depth t
  | _=>false)
 | _=>false
def zV (P:Program) (s:TypeId) (f:Nat):Option Field :=
 match P.underlying s with
 | some (.struct fs)=>fs[f]?
 | _=>none
def jh (P:Program) (op:Op):qL→Bool
 | .mov y=>(match op with|.move x|.assign x=>uq x y|_=>false)
 | .pick c' a' b'=>(match op with|.pick c a b=>uq c c' && uq a a' && uq b b'|_=>false)
 | .load n g y=>(match op with|.load t x=>uq x y && aaD P t n g|_=>false)
 | .yJ off y=>(match op with
   | .fieldAddr s x f=>uq x y && (match zV P s f with|some fd=>Nat.beq fd.offset off && (match P.info? fd.type with|some i=>!Nat.beq i.size 0|none=>false)|none=>false)
   | .indexAddr t x (.const (.int _ (.ofNat i)))=>uq x y && (match P.underlying t with|some (.array n el)=>Nat.blt i n && (match P.info? el with|some f=>PI P el f.size && Nat.beq (i*f.size) off|none=>false)|_=>false)
   | _=>false)
 | .field off n g y=>(match op with|.field s x f=>uq x y && (match zV P s f with|some fd=>Nat.beq fd.offset off && aaD P fd.type n g|none=>false)|_=>false)
 | .AB e x' i'=>(match op with|.indexAddr t x i=>uq x x' && uq i i' && (match P.underlying t with|some (.slice el)=>PI P el e|_=>false)|_=>false)
 | .ext i' y=>(match op with|.extract x i=>uq x y && Nat.beq i i'|_=>false)
 | .bin b x' y'=>(match op with|.binOp b' t x y _=>decide (b=b') && uq x x' && uq y y' && true|_=>false)
 | .eqb p x' y'=>(match op with|.binOp b t x y _=>(match b with|.eql=>p|.neq=>!p|_=>false) && uq x x' && uq y y' && (match P.underlying t with|some .bool=>true|_=>false)|_=>false)
 | .AL p x' y'=>(match op with|.binOp b t x y _=>(match b with|.eql=>p|.neq=>!p|_=>false) && uq x x' && uq y y' && YJ P t|_=>false)
 | .Dc p x' y'=>(match op with|.binOp b t x y _=>(match b with|.eql=>p|.neq=>!p|_=>false) && uq x x' && uq y y' && Tc P t|_=>false)
 | .nil k p x'=>(match op with|.binOp b t x y _=>(match b with|.eql=>p|.neq=>!p|_=>false) && uq x x' && (match k,P.underlying t,y with
   | 0,some (.slice _),.const (.slice none 0 0)=>true|1,some (.pointer _),.const (.pointer none)=>true|2,some (.func _ _ _),.const .nilFunc=>true|_,_,_=>false)|_=>false)
 | .not y=>(match op with|.unOp .not _ x=>uq x y|_=>false)
 | .conv k y=>(match op with|.convert src dst x=>uq x y && (P.underlying src).isSome && (match P.underlying dst with|some (.int j)=>decide (j=k)|_=>false)|_=>false)
 | .build z ps=>(match op with|.build t parts=>(match P.info? t with|some i=>(match i.zero with|some zv=>kBs zv.cells.toList z|none=>false)|none=>false) &&
   (match P.underlying t with|some (.struct fs)=>(match placesOf P fs.toList with|some pl=>Dl (fun i=>pl[i]?) parts.toList ps|none=>false)|_=>false)|_=>false)
 | .Py f' cs=>(match op with|.makeFunc (.func f) first caps=>Nat.beq f f' && first.toList.isEmpty && WB caps.toList cs|_=>false)
 | .len y=>(match op with|.call c=>(match c.callee with|.builtin .len=>(match c.args.toList,c.argTypes.toList with
   | [x],[t]=>uq x y && (match P.underlying t with|some (.slice _)=>true|_=>false)|_,_=>false)|_=>false)|_=>false)
 | .slice e y lo' hi' mx'=>(match op with|.slice t x lo hi mx=>uq x y && Jt lo lo' && Jt hi hi' && Jt mx mx' && (mx.isNone || hi.isSome) && (match P.underlying t with|some (.slice el)=>PI P el e|_=>false)|_=>false)
 | .lookup m' k'=>(match op with|.lookup t m k false=>uq m m' && uq k k' && Nat.beq t 104|_=>false)
 | .min2 x' y'=>(match op with|.call c=>(match c.callee with|.builtin .min=>(match c.args.toList with|[x,y]=>uq x x' && uq y y'|_=>false)|_=>false)|_=>false)
 | .L9 y=>(match op with|.nilCheck x=>uq x y|_=>false)
 | .bad=>true
 | _=>false
theorem sV {v:V} {n:Nat} (h:Df v=some n):v = .c (.int .i64 (Int.ofNat n)):=by
 unfold Df at h
 split at h
 ·cases h;rfl
 ·cases h
theorem Td {k:IntKind} {n:Int} (h:LP k n=true):k.wrap n=n:=by
 unfold LP at h
 split at h
 ·next m=>have:=Nat.le_of_ble_eq_true h;rw [IntKind.wrap_i64];simp only [Int.ofNat_eq_natCast];omega
 ·next m=>have:=Nat.le_of_ble_eq_true h;rw [IntKind.wrap_i64];omega
 ·next m=>have:=Nat.le_of_ble_eq_true h;rw [IntKind.wrap_u8];simp only [Int.ofNat_eq_natCast];omega
 ·cases h
theorem Ju (a b:Nat):((bn a).toList == (bn b).toList)=Nat.beq a b:=by
 by_cases h:a=b
 ·subst h;simp
 ·have h1:Nat.beq a b=false:=by
   cases hb:Nat.beq a b with
   | true=>exact absurd (Nat.eq_of_beq_eq_true hb) h
   | false=>rfl
  rw [h1]
  have h2:bn a≠bn b:=fun e=>h (by rw [← bK a,← bK b,e])
  rw [beq_eq_false_iff_ne]
  intro e
  rw [ByteArray.toList_eq,ByteArray.toList_eq] at e
  apply h2
  generalize bn a=x at e
  generalize bn b=y at e
  obtain ⟨⟨l⟩⟩:=x
  obtain ⟨⟨m⟩⟩:=y
  simp at e
  rw [e]
theorem PK (a b:ByteArray):(a.toList == b.toList)=decide (a=b):=by
 by_cases h:a=b
 ·subst h;simp
 ·rw [decide_eq_false h,beq_eq_false_iff_ne]
  intro e
  rw [ByteArray.toList_eq,ByteArray.toList_eq] at e
  apply h
  obtain ⟨⟨l⟩⟩:=a
  obtain ⟨⟨m⟩⟩:=b
  simp at e
  rw [e]
section
variable {P:Program} {N:Nat} {w0 w:World} {φ:Ph} {σ:St} {tm:Tr V} {a:Act} {v:V}
def YQ (P:Program) (w:World) (φ:Ph) (a:Act) (op:Op) (v:V):Prop :=
 ∀ o:Oper,o.op=op→∃ cv,(execOp a.eval o).run P w = .ok (.value cv) w∧RV φ v cv
theorem aoR {op:Op} {y:O} (hi:jh P op (.mov y)=true) (h:dB (.mov y) tm σ=some v) (ht:RT φ tm a):YQ P w φ a op v:=by
 have hv:v=y.ev tm:=by
  simp only [dB,Option.some.injEq] at h
  exact h.symm
 subst hv
 simp only [jh] at hi
 intro o ho
 split at hi
 ·exact ⟨_,by simp [execOp,ho],bV hi ht⟩
 ·exact ⟨_,by simp [execOp,ho],bV hi ht⟩
 ·cases hi
theorem ale {op:Op} {x y z:O} (hi:jh P op (.pick x y z)=true) (h:dB (.pick x y z) tm σ=some v) (ht:RT φ tm a):YQ P w φ a op v:=by
 simp only [jh] at hi
 simp only [dB,aj9] at h
 intro o ho
 split at hi
 ·simp only [Bool.and_eq_true] at hi
  have hc:=bV hi.1.1 ht
  split at h
  ·next t hc' =>
   cases h
   rw [hc'] at hc
   simp only [RV,RB] at hc
   cases t
   ·exact ⟨_,by simp [execOp,ho,hc,asBool],bV hi.2 ht⟩
   ·exact ⟨_,by simp [execOp,ho,hc,asBool],bV hi.1.2 ht⟩
  ·cases h
 ·cases hi
theorem alf (hR:Rel N w0 φ σ w) {op:Op} {n:Nat} {g:Bool} {y:O} (hi:jh P op (.load n g y)=true) (h:dB (.load n g y) tm σ=some v) (ht:RT φ tm a):YQ P w φ a op v:=by
 simp only [jh] at hi
 simp only [dB,YD] at h
 intro o ho
 split at hi
 ·next t x =>
  simp only [Bool.and_eq_true] at hi
  have hx:=bV hi.1 ht
  split at h
  ·next b off hx' =>
   rw [hx'] at hx
   obtain ⟨p,hp,e⟩:=hx
   split at h
   ·next k hk =>
    cases hpl:k.rd with
    | false=>rw [hpl] at h;cases h
    | true =>
     rw [hpl] at h
     obtain ⟨cv,h1,h2⟩:=Dk (P:=P) hR hi.2 hk hpl hp h
     exact ⟨cv,by simp [execOp,ho,Instr.loadAt,Instr.sureAddr,e,h1],h2⟩
   ·cases h
  ·cases h
 ·cases hi
theorem adl [WC:mW P] (hR:Rel N w0 φ σ w) {op:Op} {y z:O} (hi:jh P op (.lookup y z)=true) (h:dB (.lookup y z) tm σ=some v) (ht:RT φ tm a):YQ P w φ a op v:=by
 obtain rfl:=WC.eq
 simp only [jh] at hi
 simp only [dB,YE] at h
 intro o ho
 split at hi
 ·next t m k =>
  simp only [Bool.and_eq_true] at hi
  obtain ⟨⟨i1,i2⟩,i3⟩:=hi
  have i3:=Nat.eq_of_beq_eq_true i3
  subst i3
  have hm:=bV i1 ht
  have hk:=bV i2 ht
  split at h
  ·next b e j hy hz =>
   rw [hy] at hm
   rw [hz] at hk
   obtain ⟨p,hp,e1⟩:=hm
   obtain ⟨r,e2,hr⟩:=hk
   obtain ⟨l⟩:=r
   have e3:l=[.int .i64 e,.int .i64 j]:=by
    match l,hr with
    | [u,v],hr =>
     have h1:u = .int .i64 e:=hr.1
     have h2:v = .int .i64 j:=hr.2.1
     rw [h1,h2]
   subst e3
   split at h
   ·next c hb =>
    cases hw:(LP .i64 e && LP .i64 j) with
    | false=>rw [hw] at h;cases h
    | true =>
     rw [hw] at h
     cases h
     rw [Bool.and_eq_true] at hw
     obtain ⟨L,hL,hM⟩:=(hR.blk b _ p hb hp).map Js
     have hL:c=xY L:=hL
     have:=hM.look (e,j) (PE hw.1) (PE hw.2)
     refine ⟨.bool (hasB c e j),?_,rfl⟩
     rw [hL,show hasB (xY L) e j=ML.Pz L (e,j) from aaC L (e,j)]
     simp only [ML.kv] at this
     simp [execOp,ho,e1,e2,this]
   ·cases h
  ·cases h
 ·cases hi
theorem alg {op:Op} {y z:O} (hi:jh P op (.min2 y z)=true) (h:dB (.min2 y z) tm σ=some v) (ht:RT φ tm a):YQ P w φ a op v:=by
 simp only [jh] at hi
 simp only [dB,ake] at h
 intro o ho
 split at hi
 ·next c =>
  split at hi
  ·next hc =>
   split at hi
   ·next x u hX =>
    rw [Bool.and_eq_true] at hi
    have hx:=bV hi.1 ht
    have hu:=bV hi.2 ht
    split at h
    ·next j m k n hy hz =>
     rw [hy] at hx
     rw [hz] at hu
     have hx:a.eval x = .int j m:=hx
     have hu:a.eval u = .int k n:=hu
     cases hjk:decide (j=k) with
     | false=>rw [hjk] at h;cases h
     | true =>
      have ejk:j=k:=of_decide_eq_true hjk
      subst ejk
      rw [hjk] at h
      simp only [cond_true] at h
      have hA:c.args = #[x,u]:=by rw [← Array.toArray_toList (xs:=c.args),hX]
      have hrun:(execOp a.eval o).run P w = .ok (.value (.int j (if n<m then n else m))) w:=by
       simp [execOp,ho,resolve,hc,hA,invoke,builtin,hx,hu,Builtin.min_,Builtin.min2]
      split at h
      ·next hd =>
       cases h
       rw [if_pos (of_decide_eq_true hd)] at hrun
       exact ⟨_,hrun,rfl⟩
      ·next hd =>
       cases h
       rw [if_neg (of_decide_eq_false hd)] at hrun
       exact ⟨_,hrun,rfl⟩
    ·cases h
   ·cases hi
  ·cases hi
 ·cases hi
theorem Dn {s:TypeId} {f:Nat} {fd:Field} (h:zV P s f=some fd) : ∃ fs,P.underlying s=some (.struct fs)∧fs[f]?=some fd:=by
 unfold zV at h
 split at h
 ·next fs hf=>exact ⟨fs,hf,h⟩
 ·cases h
theorem ahj {op:Op} {n:Nat} {y:O} (hi:jh P op (.yJ n y)=true) (h:dB (.yJ n y) tm σ=some v) (ht:RT φ tm a):YQ P w φ a op v:=by
 simp only [jh] at hi
 simp only [dB,Wv,iY] at h
 intro o ho
 split at hi
 ·next s x f =>
  rw [Bool.and_eq_true] at hi
  have hx:=bV hi.1 ht
  have hi2:=hi.2
  split at hi2
  ·next fd hfd =>
   obtain ⟨fs,hfs,hfd⟩:=Dn hfd
   rw [Bool.and_eq_true] at hi2
   have ho2:=Nat.eq_of_beq_eq_true hi2.1
   have hi3:=hi2.2
   split at hi3
   ·next i ado =>
    have hz : ¬ i.size=0:=by
     intro e;rw [e] at hi3;simp at hi3
    split at h
    ·next b off hx' =>
     rw [hx'] at hx
     obtain ⟨p,hp,e⟩:=hx
     cases h
     refine ⟨.pointer (some ⟨p.1,off+n,none⟩),?_,p,hp,rfl⟩
     simp [execOp,ho,Instr.fieldAt,run_underlying hfs,hfd,Instr.sureAddr,e,fieldPlace,sizeOf,typeInfo,ado,hz,Addr.add_lit,ho2]
    ·cases h
   ·cases hi3
  ·cases hi2
 ·next t x k i =>
  rw [Bool.and_eq_true] at hi
  have hx:=bV hi.1 ht
  have hi2:=hi.2
  split at hi2
  ·next m el hel =>
   rw [Bool.and_eq_true] at hi2
   have hlt:i<m:=Nat.le_of_ble_eq_true hi2.1
   have hi3:=hi2.2
   split at hi3
   ·next f hf =>
    rw [Bool.and_eq_true] at hi3
    have hs:=wF hi3.1 w
    have ho2:=Nat.eq_of_beq_eq_true hi3.2
    split at h
    ·next b off hx' =>
     rw [hx'] at hx
     obtain ⟨p,hp,e⟩:=hx
     cases h
     refine ⟨.pointer (some ⟨p.1,off+n,none⟩),?_,p,hp,rfl⟩
     have hE:P.elem t=el:=by simp [Program.elem,hel]
     have hA:P.arrayLen t=m:=by simp [Program.arrayLen,hel]
     have hc:a.eval (.const (.int k (.ofNat i))) = .int k (.ofNat i):=rfl
     simp only [execOp,ho,Sem.run_bind,e,hc]
     rw [run_indexAt_array (P:=P) w t _ k _ (by rw [hE,hA];exact hel),hA,if_pos ⟨by simp,by simpa using hlt⟩,hE,hs]
     simp [Addr.add_lit,ho2]
    ·cases h
   ·cases hi3
  ·cases hi2
 ·cases hi
theorem ahk {op:Op} {off n:Nat} {g:Bool} {y:O} (hi:jh P op (.field off n g y)=true) (h:dB (.field off n g y) tm σ=some v) (ht:RT φ tm a):YQ P w φ a op v:=by
 simp only [jh] at hi
 simp only [dB,ada] at h
 intro o ho
 split at hi
 ·next s x f =>
  rw [Bool.and_eq_true] at hi
  have hx:=bV hi.1 ht
  have hi2:=hi.2
  split at hi2
  ·next fd hfd =>
   obtain ⟨fs,hfs,hfd⟩:=Dn hfd
   rw [Bool.and_eq_true] at hi2
   have ho2:=Nat.eq_of_beq_eq_true hi2.1
   obtain ⟨h1,h2,h3⟩:=NG hi2.2 w
   split at h
   ·next l hx' =>
    rw [hx'] at hx
    obtain ⟨r,e,hr⟩:=hx
    cases g with
    | true =>
     refine ⟨.agg (r.extract off (off+n)),?_,?_⟩
     ·simp [execOp,ho,Instr.field,run_underlying hfs,hfd,asAgg,e,part,h2,h1,ho2]
     ·unfold yw at h
      simp only at h
      cases hb:(Nat.beq ((l.drop off).take n).length n && ((l.drop off).take n).all B.kn) with
      | false=>rw [hb] at h;cases h
      | true =>
       rw [hb] at h
       cases h
       refine ⟨_,rfl,?_⟩
       have:=(hr.drop off).take n
       rw [Array.toList_extract,List.extract_eq_take_drop]
       simpa using this
    | false =>
     obtain ⟨xs,hx,hxs,-,hsc⟩:=ahi h h3 hr
     obtain ⟨u,rfl,hu⟩:=hsc rfl
     refine ⟨u,?_,hu⟩
     have h9:=hxs 0 u rfl
     simp only [Nat.add_zero,Array.getElem?_toList] at h9
     simp [execOp,ho,Instr.field,run_underlying hfs,hfd,asAgg,e,part,h2,ho2,h9]
   ·cases h
  ·cases hi2
 ·cases hi
theorem ahl {op:Op} {n:Nat} {y i:O} (hi:jh P op (.AB n y i)=true) (h:dB (.AB n y i) tm σ=some v) (ht:RT φ tm a):YQ P w φ a op v:=by
 simp only [jh] at hi
 simp only [dB,Wx] at h
 intro o ho
 split at hi
 ·next t x ix =>
  rw [Bool.and_eq_true,Bool.and_eq_true] at hi
  have hx:=bV hi.1.1 ht
  have hix:=bV hi.1.2 ht
  have hi2:=hi.2
  split at hi2
  ·next el hel =>
   have hs:=wF hi2 w
   split at h
   ·next b off len c j hx' hj =>
    rw [sV hj] at hix
    rw [hx'] at hx
    simp only [RV,RB] at hix
    cases hb:Nat.blt j len with
    | false=>rw [hb] at h;cases h
    | true =>
     rw [hb] at h
     obtain ⟨p,K,hp,e,hle,-⟩:=hx.resolve_right fun hw=>by have:=Nat.le_of_ble_eq_true hb;have:=hw.1;omega
     simp only [cond_true,iY] at h
     cases h
     have hlt:j<len:=Nat.le_of_ble_eq_true hb
     refine ⟨.pointer (some ⟨p.1,off+j*n,none⟩),?_,p,hp,rfl⟩
     have hE:P.elem t=el:=by simp [Program.elem,hel]
     simp only [execOp,ho,Sem.run_bind]
     rw [e,hix,run_indexAt_slice (P:=P) w t _ len K .i64 _ (by rw [hE];exact hel),if_pos ⟨by simp,by simpa using hlt⟩,hE,hs]
     simp [Addr.add_lit]
   ·cases h
  ·cases hi2
 ·cases hi
end
end Go.Proofs.Xe
