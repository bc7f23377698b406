/- The bH: a map from dP to bools that holds only 'true', as a list. -/
import Derived.Test.YtjonjhcaniinaaaGreatDoorZ1
import Derived.Laws.AppendOwn
import Derived.Below
import Derived.Test.YtjonjhcaniinaaaGreatDoorProg
import Derived.Deep.QuietTactic
import Derived.Maps.OwnSet
import Derived.DeepKeys4
import Derived.MapViews
import Derived.Maps.Views
set_option linter.unusedSimpArgs false
set_option linter.unusedVariables false
namespace Go.Proofs.Xe
open Go.RowKit Go.Proofs.Ins
inductive Tt (α:Type) where
 | leaf
 | node (l:Tt α) (v:Option α) (r:Tt α)
inductive V7 where
 | e
 | l (p:V7)
 | r (p:V7)
 | bad
noncomputable def pathOf (d:Nat):Nat→V7 :=
 Nat.rec (motive:=fun _=>Nat→V7) (fun _=>.bad) (fun _ ih k=>Bool.rec (motive:=fun _=>V7) (Bool.rec (motive:=fun _=>V7) (.r (ih (Nat.sub (Nat.div k 2) 1))) (.l (ih (Nat.div k 2))) (Nat.beq (Nat.mod k 2) 1)) .e (Nat.beq k 0)) d
noncomputable def wS {α:Type} (p:V7):Tt α→Option α :=
 V7.rec (motive:=fun _=>Tt α→Option α) (fun t=>Tt.rec (motive:=fun _=>Option α) none (fun _ v _ _ _=>v) t) (fun _ ih t=>Tt.rec (motive:=fun _=>Option α) none (fun l _ _ _ _=>ih l) t)
  (fun _ ih t=>Tt.rec (motive:=fun _=>Option α) none (fun _ _ r _ _=>ih r) t) (fun _=>none) p
noncomputable def aeG {α:Type} (x:Option α) (r:Tt α) (o:Option (Tt α)):Option (Tt α):=Option.rec (motive:=fun _=>Option (Tt α)) none (fun l=>some (.node l x r)) o
noncomputable def aeH {α:Type} (x:Option α) (l:Tt α) (o:Option (Tt α)):Option (Tt α):=Option.rec (motive:=fun _=>Option (Tt α)) none (fun r=>some (.node l x r)) o
noncomputable def CU {α:Type} (v:Option α) (p:V7):Tt α→Option (Tt α) :=
 V7.rec (motive:=fun _=>Tt α→Option (Tt α)) (fun t=>Tt.rec (motive:=fun _=>Option (Tt α)) (some (.node .leaf v .leaf)) (fun l _ r _ _=>some (.node l v r)) t)
  (fun _ ih t=>Tt.rec (motive:=fun _=>Option (Tt α)) (aeG none .leaf (ih .leaf)) (fun l x r _ _=>aeG x r (ih l)) t)
  (fun _ ih t=>Tt.rec (motive:=fun _=>Option (Tt α)) (aeH none .leaf (ih .leaf)) (fun l x r _ _=>aeH x l (ih r)) t) (fun _=>none) p
theorem jy {α:Type} (a b:Nat) (x y:α):(bif Nat.beq a b then x else y)=if a=b then x else y:=by
 by_cases h:a=b
 ·subst h;rw [if_pos rfl,show Nat.beq a a=true from by simp];rfl
 ·rw [if_neg h,show Nat.beq a b=false from by
   cases hb:Nat.beq a b with
   | true=>exact absurd (Nat.eq_of_beq_eq_true hb) h
   | false=>rfl];rfl
theorem DY (d k:Nat):pathOf (d+1) k=if k=0 then .e else if k%2=1 then .l (pathOf d (k/2)) else .r (pathOf d (k/2 - 1)):=by
 rw [← jy,← jy]
 show Bool.rec (motive:=fun _=>V7) _ _ _=_
 show Bool.rec (motive:=fun _=>V7) (Bool.rec (motive:=fun _=>V7) (.r (pathOf d (k/2 - 1))) (.l (pathOf d (k/2))) (Nat.beq (k%2) 1)) .e (Nat.beq k 0)=_
 cases Nat.beq k 0 <;> cases Nat.beq (k%2) 1 <;> rfl
theorem lK {α:Type} (p:V7):wS p (.leaf:Tt α)=none:=by cases p <;> rfl
theorem GR {α:Type} (v:Option α) : ∀ (d k j:Nat) (t t' : Tt α),CU v (pathOf d k) t=some t'→wS (pathOf d j) t' = if j=k then v else wS (pathOf d j) t
 | 0,k,j,t,t',h=>by cases h
 | d+1,k,j,t,t',h=>by
  rw [DY] at h
  rw [DY d j]
  by_cases hk:k=0
  ·rw [if_pos hk] at h
   subst hk
   cases t with
   | leaf =>
    have h1:some (Tt.node .leaf v .leaf)=some t':=h
    cases h1
    by_cases hj:j=0
    ·rw [if_pos hj,if_pos hj];rfl
    ·rw [if_neg hj,if_neg hj,lK]
     split
     ·exact lK _
     ·exact lK _
   | node l x r =>
    have h1:some (Tt.node l v r)=some t':=h
    cases h1
    by_cases hj:j=0
    ·rw [if_pos hj,if_pos hj];rfl
    ·rw [if_neg hj,if_neg hj]
     split
     ·rfl
     ·rfl
  ·rw [if_neg hk] at h
   by_cases hm:k%2=1
   ·rw [if_pos hm] at h
    obtain ⟨l,x,r,l',e1,e2,e3⟩ : ∃ l x r l',CU v (pathOf d (k/2)) l=some l'∧t' = .node l' x r∧∀ j,wS j t=wS j (.node l x r)∨(t = .leaf∧l = .leaf∧r = .leaf∧x=none):=by
     cases t with
     | leaf =>
      have h1:aeG none .leaf (CU v (pathOf d (k/2)) .leaf)=some t':=h
      cases hp:CU v (pathOf d (k/2)) .leaf with
      | none=>rw [hp] at h1;cases h1
      | some l'=>rw [hp] at h1;exact ⟨.leaf,none,.leaf,l',hp,(Option.some.inj h1).symm,fun _=>.inr ⟨rfl,rfl,rfl,rfl⟩⟩
     | node l x r =>
      have h1:aeG x r (CU v (pathOf d (k/2)) l)=some t':=h
      cases hp:CU v (pathOf d (k/2)) l with
      | none=>rw [hp] at h1;cases h1
      | some l'=>rw [hp] at h1;exact ⟨l,x,r,l',hp,(Option.some.inj h1).symm,fun _=>.inl rfl⟩
    have e4 : ∀ p,wS p t=wS p (.node l x r):=fun p=>by
     rcases e3 p with h|⟨rfl,rfl,rfl,rfl⟩
     ·exact h
     ·rw [lK]
      cases p <;> first|rfl|exact (lK _).symm
    rw [e4,e2]
    by_cases hj:j=0
    ·rw [if_pos hj,if_neg (by omega)];rfl
    ·rw [if_neg hj]
     by_cases hjm:j%2=1
     ·rw [if_pos hjm]
      show wS (pathOf d (j/2)) l' = if j=k then v else wS (pathOf d (j/2)) l
      rw [GR v d _ _ _ _ e1]
      by_cases e:j=k
      ·subst e;rw [if_pos rfl,if_pos rfl]
      ·rw [if_neg (by omega),if_neg e]
     ·rw [if_neg hjm,if_neg (by intro e;subst e;exact hjm hm)];rfl
   ·rw [if_neg hm] at h
    obtain ⟨l,x,r,r',e1,e2,e3⟩ : ∃ l x r r',CU v (pathOf d (k/2 - 1)) r=some r'∧t' = .node l x r'∧∀ j,wS j t=wS j (.node l x r)∨(t = .leaf∧l = .leaf∧r = .leaf∧x=none):=by
     cases t with
     | leaf =>
      have h1:aeH none .leaf (CU v (pathOf d (k/2 - 1)) .leaf)=some t':=h
      cases hp:CU v (pathOf d (k/2 - 1)) .leaf with
      | none=>rw [hp] at h1;cases h1
      | some r'=>rw [hp] at h1;exact ⟨.leaf,none,.leaf,r',hp,(Option.some.inj h1).symm,fun _=>.inr ⟨rfl,rfl,rfl,rfl⟩⟩
     | node l x r =>
      have h1:aeH x l (CU v (pathOf d (k/2 - 1)) r)=some t':=h
      cases hp:CU v (pathOf d (k/2 - 1)) r with
      | none=>rw [hp] at h1;cases h1
      | some r'=>rw [hp] at h1;exact ⟨l,x,r,r',hp,(Option.some.inj h1).symm,fun _=>.inl rfl⟩
    have e4 : ∀ p,wS p t=wS p (.node l x r):=fun p=>by
     rcases e3 p with h|⟨rfl,rfl,rfl,rfl⟩
     ·exact h
     ·rw [lK]
      cases p <;> first|rfl|exact (lK _).symm
    rw [e4,e2]
    by_cases hj:j=0
    ·rw [if_pos hj,if_neg (by omega)];rfl
    ·rw [if_neg hj]
     by_cases hjm:j%2=1
     ·rw [if_pos hjm,if_neg (by intro e;subst e;exact hm hjm)];rfl
     ·rw [if_neg hjm]
      show wS (pathOf d (j/2 - 1)) r' = if j=k then v else wS (pathOf d (j/2 - 1)) r
      rw [GR v d _ _ _ _ e1]
      by_cases e:j=k
      ·subst e;rw [if_pos rfl,if_pos rfl]
      ·rw [if_neg (by omega),if_neg e]
inductive Tr (α:Type) where
 | fn (f:Nat→Option α)
 | tree (t:Tt α)
noncomputable section
def Tr.leaf {α:Type} : Tr α:=.tree .leaf
def Tr.get {α:Type} (t:Tr α) (k:Nat):Option α:=match t with|.fn f=>f k|.tree t=>wS (pathOf 40 k) t
def Tr.set {α:Type} (t:Tr α) (k:Nat) (v:Option α):Tr α:=match t with
 | .fn f=>.fn fun j=>if j=k then v else f j
 | .tree t=>match CU v (pathOf 40 k) t with|some t'=>.tree t'|none=>.fn fun j=>if j=k then v else wS (pathOf 40 j) t
def Tr.put {α:Type} (v:Option α) (_:Nat) (t:Tr α) (k:Nat):Option (Tr α):=some (t.set k v)
end
noncomputable instance {α:Type} : CoeFun (Tr α) (fun _=>Nat→Option α):=⟨Tr.get⟩
theorem Tr.jZ {α:Type} (t:Tr α) (k:Nat) (v:Option α) (j:Nat):(t.set k v).get j=if j=k then v else t.get j:=by
 cases t with
 | fn f=>rfl
 | tree t =>
  unfold Tr.set
  dsimp only
  cases h:CU v (pathOf 40 k) t with
  | none=>rfl
  | some t'=>exact GR v 40 k j t t' h
theorem Tr.get_put {α:Type} (v:Option α) (d:Nat) (t t' : Tr α) (k j:Nat) (h:Tr.put v d t k=some t'):t'.get j=if j=k then v else t.get j:=by
 unfold Tr.put at h
 have h:=Option.some.inj h
 subst h
 exact Tr.jZ t k v j
theorem Tr.Aw {α:Type} (k:Nat):(Tr.leaf:Tr α).get k=none:=lK _
inductive Cap where
 | ex (k:Nat)
 | opn
 | any
 deriving DecidableEq
inductive B where
 | int (k:IntKind) (n:Int)
 | bool (b:Bool)
 | str (s:ByteArray)
 | nat (n:Nat)
 | ptr (b o:Nat)
 | MS
 | sl (b o n:Nat) (c:Cap)
 | aW
 | mp (b:Nat)
 | any
 deriving DecidableEq
inductive V where
 | c (x:B)
 | agg (l:List B)
 | fn (f:Nat) (caps:List B)
 | GU
 | tnil
 | bZ (a r:V)
 | und
 deriving DecidableEq
structure Bk where
 cells:List B
 opn:Option (Nat×Nat)
structure St where
 h:Tr Bk
 ah:Nat
inductive O where
 | t (i:Nat)
 | k (v:V)
 deriving DecidableEq
inductive oI where
 | mov (x:O)
 | pick (c a b:O)
 | load (n:Nat) (agg:Bool) (x:O)
 | store (n:Nat) (a x:O)
 | wU (off:Nat) (x:O)
 | field (off n:Nat) (agg:Bool) (x:O)
 | yX (fC:Nat) (x i:O)
 | ext (i:Nat) (x:O)
 | bin (op:BinOp) (x y:O)
 | eqb (pos:Bool) (x y:O)
 | Az (pos:Bool) (x y:O)
 | AA (pos:Bool) (x y:O)
 | nil (k:Nat) (pos:Bool) (x:O)
 | not (x:O)
 | conv (k:IntKind) (x:O)
 | build (zero:List B) (parts:List (Nat×Nat×O))
 | MV (f:Nat) (caps:List O)
 | len (x:O)
 | slice (fC:Nat) (x:O) (lo hi mx:Option O)
 | alloc (zero:List B)
 | box (x:O)
 | Et (bytes:Nat) (zero:List B) (l c:O)
 | bsl (fC n:Nat) (zero:List B) (parts:List (Nat×Nat×O))
 | app (ty fC bytes:Nat) (s x:O)
 | call (g:O) (args:List O)
 | Jv (x:O)
 | min2 (x y:O)
 | GV
 | GX
 | lookup (m k:O)
 | TB (m k v:O)
 | bad
 deriving DecidableEq
structure AO where
 dst:Option Nat
 g:Option (Nat×Bool)
 op:oI
 deriving DecidableEq
structure DO where
 i:Nat
 us:List Nat
 os:List Nat
 o:AO
inductive Dr where
 | fin (qs:List DO)
 | act (qs:List DO) (x:DO) (r:Dr)
inductive AC where
 | skip
 | ops (l:List AO)
 | drawn (d:Dr) (pt:List (List Nat)) (ds:List Nat)
 | seq (a b:AC)
 | cond (c:O) (a b:AC)
 | block (i:Nat) (a:AC)
 | loop (a:AC)
 | exit (i:Nat)
 | ret
 | bad
structure AF where
 n:Nat
 body:AC
 res:List (Nat×Option (Nat×Bool))
inductive AX where
 | normal
 | exit (i:Nat)
 | ret
 deriving DecidableEq
noncomputable section
def Bk.pl (k:Bk):Bool:=match k.opn with|some (0,_)=>false|_=>true
def Bk.rd (k:Bk):Bool:=match k.opn with|some (0,t)=>Nat.beq t 1|_=>true
def V.cells:V→Option (List B)
 | .c x=>some [x]
 | .agg l=>some l
 | _=>none
def Tr.aj (tm:Tr V) (i:Nat):V:=match tm.get i with|some v=>v|none=>.und
def O.ev (tm:Tr V):O→V
 | .t i=>tm.aj i
 | .k v=>v
def Jj:IntKind→Int→Bool
 | .i64,.ofNat m=>Nat.ble m 9223372036854775807
 | .i64,.negSucc m=>Nat.ble m 9223372036854775807
 | .u8,.ofNat m=>Nat.ble m 255
 | _,_=>false
def fN {α:Sort _} (m:Nat) (f:Nat→α):α:=match m with|0=>f 0|n+1=>f (n+1)
theorem iJ {α:Sort _} (m:Nat) (f:Nat→α):fN m f=f m:=by cases m <;> rfl
def fI {α:Sort _} (m:Int) (f:Int→α):α:=match m with|.ofNat n=>fN n fun n=>f (.ofNat n)|.negSucc n=>fN n fun n=>f (.negSucc n)
theorem aho {α:Sort _} (m:Int) (f:Int→α):fI m f=f m:=by
 cases m with
 | ofNat n=>exact iJ n fun n=>f (.ofNat n)
 | negSucc n=>exact iJ n fun n=>f (.negSucc n)
def mkI (k:IntKind) (n:Int):Option V:=fI n fun n=>bif Jj k n then some (.c (.int k n)) else none
def apq:Bool→V→Bool
 | true,.agg _=>true
 | false,.c _=>true
 | _,_=>false
def B.kn:B→Bool
 | .any=>false
 | _=>true
def wV (l:List B) (o n:Nat) (agg:Bool):Option V :=
 match agg with
 | true=>let r:=(l.drop o).take n
  bif Nat.beq r.length n && r.all B.kn then some (.agg r) else none
 | false=>match l.drop o with|x::_=>bif x.kn then some (.c x) else none|[]=>none
def rU:List B→Nat→List B→Option (List B)
 | l,0,vs=>bif Nat.ble vs.length l.length then some (vs ++ l.drop vs.length) else none
 | [],_+1,_=>none
 | x::l,o+1,vs=>match rU l o vs with|some r=>some (x::r)|none=>none
def TD (op:BinOp) (k:IntKind) (a b:Int):Option V :=
 match op with
 | .shr=>bif decide (b<0) then none else some (.c (.int k (a.fdiv (2 ^ (min b.toNat k.bits)))))
 | .shl=>bif decide (b<0) then none else some (.c (.int k (k.wrap (a*2 ^ (min b.toNat k.bits)))))
 | _=>none
def wW (op:BinOp) (k:IntKind) (a b:Int):Option V :=
 match op with
 | .add=>some (.c (.int k (k.wrap (a+b))))
 | .sub=>some (.c (.int k (k.wrap (a - b))))
 | .mul=>some (.c (.int k (k.wrap (a*b))))
 | .quo=>bif decide (b=0) then none else some (.c (.int k (k.wrap (a.tdiv b))))
 | .rem=>bif decide (b=0) then none else some (.c (.int k (a.tmod b)))
 | .and=>some (.c (.int k (k.wrap ((BitVec.ofInt k.bits a &&& BitVec.ofInt k.bits b).toNat))))
 | .or=>some (.c (.int k (k.wrap ((BitVec.ofInt k.bits a ||| BitVec.ofInt k.bits b).toNat))))
 | op=>TD op k a b
def TF (op:BinOp) (k:IntKind) (a b:Int):Option V :=
 match op with
 | .add=>match k with|.i64=>mkI .i64 (a+b)|k=>wW .add k a b
 | .sub=>match k with|.i64=>mkI .i64 (a - b)|k=>wW .sub k a b
 | .mul=>match k with|.i64=>mkI .i64 (a*b)|k=>wW .mul k a b
 | .eql=>some (.c (.bool (decide (a=b))))
 | .neq=>some (.c (.bool (!decide (a=b))))
 | .lss=>some (.c (.bool (decide (a<b))))
 | .leq=>some (.c (.bool (decide (a≤b))))
 | .gtr=>some (.c (.bool (decide (b<a))))
 | .geq=>some (.c (.bool (decide (b≤a))))
 | op=>wW op k a b
def nX (op:BinOp):V→V→Option V
 | .c (.int j a),.c (.int k b)=>bif decide (j=k) then TF op j a b else TD op j a b
 | .c (.str a),.c (.str b)=>match op with|.eql=>some (.c (.bool (decide (a=b))))|.neq=>some (.c (.bool (!decide (a=b))))|_=>none
 | .c (.nat a),.c (.nat b)=>match op with|.eql=>some (.c (.bool (Nat.beq a b)))|.neq=>some (.c (.bool (!Nat.beq a b)))|_=>none
 | .c (.nat a),.c (.str b)=>bif Nat.beq b.size 0 then (match op with|.eql=>some (.c (.bool (Nat.beq a 0)))|.neq=>some (.c (.bool (!Nat.beq a 0)))|_=>none) else none
 | _,_=>none
def B.num:B→Option Nat
 | .nat n=>some n
 | .str s=>bif Nat.beq s.size 0 then some 0 else none
 | _=>none
def eqS (x y:B):Option Bool:=match x,y with
 | .str a,.str b=>some (decide (a=b))
 | x,y=>match x.num,y.num with
  | some m,some n=>some (Nat.beq m n)
  | _,_=>none
def eqB:List B→List B→Option Bool
 | [.bool a,b,c],[.bool d,e,f]=>match eqS b e,eqS c f with|some x,some y=>some ((a == d) && (x && y))|_,_=>none
 | _,_=>none
def rW:List B→List (Nat×Nat×V)→Option (List B)
 | z,[]=>some z
 | z,(o,n,v)::r=>match v.cells with
  | some l=>bif Nat.beq l.length n then match rU z o l with|some z=>rW z r|none=>none else none
  | none=>none
def AB:V→Option Nat
 | .c (.int .i64 (.ofNat n))=>some n
 | _=>none
def St.new (σ:St) (k:Bk):Option (Nat×St) :=
 match Tr.put (some k) 40 σ.h σ.ah with
 | some h=>fN (σ.ah+1) fun m=>some (σ.ah,⟨h,m⟩)
 | none=>none
def rep (z:List B):Nat→List B
 | 0=>[]
 | n+1=>z ++ rep z n
def Pq (b:Option O) (tm:Tr V) (d:Nat):Option Nat :=
 match b with
 | none=>some d
 | some x=>AB (x.ev tm)
def Yc (tm:Tr V):List O→Option (List B)
 | []=>some []
 | x::r=>match x.ev tm,Yc tm r with|.c b,some l=>some (b::l)|_,_=>none
def ahp (c a b:O) (tm:Tr V):Option V :=
 match c.ev tm with|.c (.bool t)=>some (bif t then a.ev tm else b.ev tm)|_=>none
def V9 (n:Nat) (g:Bool) (x:O) (tm:Tr V) (σ:St):Option V :=
 match x.ev tm with
  | .c (.ptr b o)=>match σ.h.get b with|some k=>bif k.rd then wV k.cells o n g else none|none=>none
  | _=>none
def eqI:Int→Int→Bool
 | .ofNat m,.ofNat n=>Nat.beq m n
 | .negSucc m,.negSucc n=>Nat.beq m n
 | _,_=>false
def hasB:List B→Int→Int→Bool
 | .int _ e :: .int _ k::r,a,b=>bif eqI e a && eqI k b then true else hasB r a b
 | _,_,_=>false
def Wi (m k:O) (tm:Tr V) (σ:St):Option V :=
 match m.ev tm,k.ev tm with
  | .c (.mp b),.agg [.int .i64 e,.int .i64 j]=>match σ.h.get b with
   | some ⟨c,some (0,0)⟩=>bif Jj .i64 e && Jj .i64 j then some (.c (.bool (hasB c e j))) else none
   | _=>none
  | _,_=>none
def TG (off:Nat) (x:O) (tm:Tr V):Option V :=
 match x.ev tm with|.c (.ptr b o)=>fN (o+off) fun m=>some (.c (.ptr b m))|_=>none
def aaR (off n:Nat) (g:Bool) (x:O) (tm:Tr V):Option V :=
 match x.ev tm with|.agg l=>wV l off n g|_=>none
def TJ (fC:Nat) (x i:O) (tm:Tr V):Option V :=
 match x.ev tm,AB (i.ev tm) with
  | .c (.sl b o len _),some j=>bif Nat.blt j len then fN (o+j*fC) fun m=>some (.c (.ptr b m)) else none
  | _,_=>none
def aaS (i:Nat) (x:O) (tm:Tr V):Option V :=
 match x.ev tm,i with
  | .bZ a _,0=>some a
  | .bZ _ (.bZ a _),1=>some a
  | .bZ _ (.bZ _ (.bZ a _)),2=>some a
  | _,_=>none
def alG (p:Bool) (x y:O) (tm:Tr V):Option V :=
 match x.ev tm,y.ev tm with
  | .c (.bool a),.c (.bool b)=>some (.c (.bool (p == (a == b))))
  | _,_=>none
def eqL:List B→List B→Option Bool
 | [.int .i64 a,.int .i64 b],[.int .i64 c,.int .i64 d]=>some (decide (a=c) && decide (b=d))
 | _,_=>none
def aaT (p:Bool) (x y:O) (tm:Tr V):Option V :=
 match x.ev tm,y.ev tm with
  | .agg l,.agg r=>match eqL l r with|some b=>some (.c (.bool (p == b)))|none=>none
  | _,_=>none
def aaU (p:Bool) (x y:O) (tm:Tr V):Option V :=
 match x.ev tm,y.ev tm with
  | .agg l,.agg r=>match eqB l r with|some b=>some (.c (.bool (p == b)))|none=>none
  | _,_=>none
def alH (k:Nat) (p:Bool) (x:O) (tm:Tr V):Option V :=
 match k,x.ev tm with
  | 0,.c (.sl ..)=>some (.c (.bool (!p)))
  | 0,.c .aW=>some (.c (.bool p))
  | 1,.c (.ptr ..)=>some (.c (.bool (!p)))
  | 1,.c .MS=>some (.c (.bool p))
  | 2,.fn ..=>some (.c (.bool (!p)))
  | 2,.GU=>some (.c (.bool p))
  | _,_=>none
def alI (x:O) (tm:Tr V):Option V :=
 match x.ev tm with|.c (.bool b)=>some (.c (.bool !b))|_=>none
def ahq (k:IntKind) (x:O) (tm:Tr V):Option V :=
 match x.ev tm with|.c (.int _ n)=>bif Jj k n then some (.c (.int k n)) else some (.c (.int k (k.wrap n)))|_=>none
def aaV (z:List B) (ps:List (Nat×Nat×O)) (tm:Tr V):Option V :=
 match rW z (ps.map fun p=>(p.1,p.2.1,p.2.2.ev tm)) with|some l=>some (.agg l)|none=>none
def ahr (f:Nat) (cs:List O) (tm:Tr V):Option V :=
 match Yc tm cs with|some l=>some (.fn f l)|none=>none
def qlen (x:O) (tm:Tr V):Option V :=
 match x.ev tm with|.c (.sl _ _ n _)=>some (.c (.int .i64 (.ofNat n)))|.c .aW=>some (.c (.int .i64 (.ofNat 0)))|_=>none
def GY (fC:Nat) (x:O) (lo hi mx:Option O) (tm:Tr V):Option V :=
 match x.ev tm with
  | .c (.sl b o n c) =>
   match Pq lo tm 0,Pq hi tm n with
   | some l,some h=>bif Nat.ble l h && Nat.ble h n then
     match mx with
     | none=>(match c with
      | .ex k=>bif Nat.blt l k then fN (o+l*fC) fun m=>fN (h - l) fun j=>fN (k - l) fun q=>some (.c (.sl b m j (.ex q))) else some (.c (.sl b o 0 .any))
      | .opn=>bif Nat.beq l 0 then some (.c (.sl b o h .opn)) else bif Nat.blt l n then fN (o+l*fC) fun m=>fN (h - l) fun j=>some (.c (.sl b m j .any)) else some (.c (.sl b o 0 .any))
      | .any=>bif Nat.blt l n then fN (o+l*fC) fun m=>fN (h - l) fun j=>some (.c (.sl b m j .any)) else some (.c (.sl b o 0 .any)))
     | some y=>match AB (y.ev tm) with
      | some q=>bif Nat.ble h q && Nat.ble q n then bif Nat.beq l 0 then some (.c (.sl b o h (bif Nat.beq n 0 then .any else .ex q))) else none else none
      | none=>none
    else none
   | _,_=>none
  | .c .aW=>match Pq lo tm 0,Pq hi tm 0 with
   | some 0,some 0=>(match mx with|none=>some (.c .aW)|some y=>match AB (y.ev tm) with|some 0=>some (.c .aW)|_=>none)
   | _,_=>none
  | _=>none
def ahs (x:O) (tm:Tr V):Option V :=
 match x.ev tm with|.c (.ptr b o)=>some (.c (.ptr b o))|.fn f l=>some (.fn f l)|_=>none
def aht (x y:O) (tm:Tr V):Option V :=
 match x.ev tm,y.ev tm with
  | .c (.int j a),.c (.int k b)=>bif decide (j=k) then (match decide (b<a) with|true=>some (.c (.int k b))|false=>some (.c (.int j a))) else none
  | _,_=>none
def cO (op:oI) (tm:Tr V) (σ:St):Option V :=
 match op with
 | .mov x=>some (x.ev tm)
 | .pick c a b=>ahp c a b tm
 | .load n g x=>V9 n g x tm σ
 | .lookup m k=>Wi m k tm σ
 | .wU off x=>TG off x tm
 | .field off n g x=>aaR off n g x tm
 | .yX fC x i=>TJ fC x i tm
 | .ext i x=>aaS i x tm
 | .bin op x y=>nX op (x.ev tm) (y.ev tm)
 | .eqb p x y=>alG p x y tm
 | .Az p x y=>aaU p x y tm
 | .AA p x y=>aaT p x y tm
 | .nil k p x=>alH k p x tm
 | .not x=>alI x tm
 | .conv k x=>ahq k x tm
 | .build z ps=>aaV z ps tm
 | .MV f cs=>ahr f cs tm
 | .len x=>qlen x tm
 | .slice fC x lo hi mx=>GY fC x lo hi mx tm
 | .Jv x=>ahs x tm
 | .min2 x y=>aht x y tm
 | _=>none
def jG (op:oI) (tm:Tr V):Option (List B×(Nat→V)) :=
 match op with
 | .alloc z=>some (z,fun b=>.c (.ptr b 0))
 | .box x=>match (x.ev tm).cells with|some l=>some (l,fun b=>.c (.ptr b 0))|none=>none
 | .Et bytes z l c=>match AB (l.ev tm),AB (c.ev tm) with
  | some n,some m=>bif Nat.ble n m && (Nat.ble (bytes*m) 281474976710656 && Nat.ble m 1073741824) then some (rep z m,fun b=>.c (.sl b 0 n (.ex m))) else none
  | _,_=>none
 | .bsl fC n z ps=>bif Nat.ble (n*fC) 16777216 && Nat.ble n 16777216 then match rW (rep z n) (ps.map fun p=>(p.1,p.2.1,p.2.2.ev tm)) with
  | some l=>some (l,fun b=>.c (.sl b 0 n (.ex n)))
  | none=>none else none
 | _=>none
def mZ (ty fC bytes:Nat) (s:V) (m:Nat) (news:List B) (σ:St):Option (V×St) :=
 match s with
 | .c .aW=>bif Nat.beq m 0 then some (.c .aW,σ) else bif Nat.blt 0 fC && (Nat.ble (m*bytes) 140737488355328 && Nat.ble m 1073741824) then
   match σ.new ⟨news,some (fC,ty)⟩ with|some (b,σ)=>some (.c (.sl b 0 m .opn),σ)|none=>none else none
 | .c (.sl b o n .opn)=>bif Nat.beq m 0 then some (.c (.sl b o n .opn),σ) else match σ.h.get b with
  | some ⟨cells,some (e,t)⟩=>bif Nat.blt 0 e && Nat.beq o 0 && (Nat.beq e fC && (Nat.beq t ty && (Nat.ble ((n+m)*bytes) 140737488355328 && (Nat.ble (n+m) 1073741824 && Nat.ble (n*fC) cells.length)))) then
    match Tr.put none 40 σ.h b with
    | some h=>match (⟨h,σ.ah⟩:St).new ⟨cells.take (n*fC) ++ news,some (fC,ty)⟩ with
     | some (b',σ)=>fN (n+m) fun q=>some (.c (.sl b' 0 q .opn),σ)
     | none=>none
    | none=>none else none
  | _=>none
 | .c (.sl b o n (.ex k))=>bif Nat.beq m 0 then bif Nat.ble n k then some (.c (.sl b o n (.ex k)),σ) else none else match σ.h.get b with
  | some bk=>bif (bk.rd && (Nat.blt 0 fC && ((bk.cells.drop o).take (n*fC)).all B.kn)) && Nat.blt k (n+m) && (Nat.ble ((n+m)*bytes) 140737488355328 && (Nat.ble (n+m) 1073741824 && Nat.ble (o+n*fC) bk.cells.length)) then
    match σ.new ⟨(bk.cells.drop o).take (n*fC) ++ news,some (fC,ty)⟩ with
    | some (b',σ)=>fN (n+m) fun q=>some (.c (.sl b' 0 q .opn),σ)
    | none=>none else none
  | none=>none
 | .c (.sl b o n .any)=>bif Nat.beq m 0 then some (.c (.sl b o n .any),σ) else none
 | _=>none
def nY (op:oI) (tm:Tr V) (σ:St):Option (V×St) :=
 match op with
 | .store n a x=>match a.ev tm,(x.ev tm).cells with
  | .c (.ptr b o),some vs=>bif Nat.beq vs.length n then match σ.h.get b with
   | some k=>match bif k.pl then rU k.cells o vs else none with
    | some l=>match Tr.put (some ⟨l,k.opn⟩) 40 σ.h b with|some h=>some (.und,⟨h,σ.ah⟩)|none=>none
    | none=>none
   | none=>none else none
  | _,_=>none
 | .app ty fC bytes s x=>match x.ev tm with
  | .c .aW=>mZ ty fC bytes (s.ev tm) 0 [] σ
  | .c (.sl b o m _)=>bif Nat.beq m 0 then mZ ty fC bytes (s.ev tm) 0 [] σ else match σ.h.get b with
   | some k=>let l:=(k.cells.drop o).take (m*fC)
    bif k.rd && (Nat.beq l.length (m*fC) && l.all B.kn) then mZ ty fC bytes (s.ev tm) m l σ else none
   | none=>none
  | _=>none
 | .GV=>some (.und,σ)
 | .GX=>match σ.new ⟨[],some (0,0)⟩ with|some (b,σ)=>some (.c (.mp b),σ)|none=>none
 | .TB m k x=>match m.ev tm,k.ev tm,x.ev tm with
  | .c (.mp b),.agg [.int .i64 e,.int .i64 j],.c (.bool true)=>match σ.h.get b with
   | some ⟨c,some (0,0)⟩=>bif Jj .i64 e && (Jj .i64 j && Nat.ble c.length 1000) then
     match Tr.put (some ⟨c ++ [.int .i64 e,.int .i64 j],some (0,0)⟩) 40 σ.h b with|some h=>some (.und,⟨h,σ.ah⟩)|none=>none
    else none
   | _=>none
  | _,_,_=>none
 | _=>none
def Wj (op:oI) (tm:Tr V):Option (Nat×List V) :=
 match op with
 | .call g args=>match g.ev tm with
  | .fn f caps=>some (f,args.map (·.ev tm) ++ caps.map .c)
  | _=>none
 | _=>none
inductive Kd where|q|n|a|c
def oI.kind:oI→Kd
 | .alloc ..|.box ..|.Et ..|.bsl ..=>.n
 | .store ..|.app ..|.GV|.GX|.TB ..=>.a
 | .call ..=>.c
 | _=>.q
def zo (tm:Tr V) (d:Option Nat) (v:V):Option (Tr V) :=
 match d with
 | none=>some tm
 | some d=>Tr.put (some v) 40 tm d
def kK (cl:Nat→List V→St→Option (V×St)) (op:oI) (tm:Tr V) (σ:St):Option (V×St) :=
 match op.kind with
 | .q=>match cO op tm σ with|some v=>some (v,σ)|none=>none
 | .n=>match jG op tm with
  | some (l,v)=>match σ.new ⟨l,none⟩ with|some (b,σ)=>some (v b,σ)|none=>none
  | none=>none
 | .a=>nY op tm σ
 | .c=>match Wj op tm with|some (f,args)=>cl f args σ|none=>none
def gate (g:Option (Nat×Bool)) (tm:Tr V):Option Bool :=
 match g with
 | none=>some true
 | some (t,b)=>match tm.aj t with
  | .c (.bool c)=>some (c == b)
  | .tnil=>some false
  | _=>none
def stepG (cl:Nat→List V→St→Option (V×St)) (o:AO) (tm:Tr V) (σ:St):Option (V×St) :=
 match gate o.g tm with
 | some true=>kK cl o.op tm σ
 | some false=>some (.tnil,σ)
 | none=>none
def ng (cl:Nat→List V→St→Option (V×St)):List AO→Tr V→St→Option (Tr V×St)
 | [],tm,σ=>some (tm,σ)
 | o::r,tm,σ=>match stepG cl o tm σ with
  | some (v,σ)=>match zo tm o.dst v with|some tm=>ng cl r tm σ|none=>none
  | none=>none
def oI.acts (o:oI):Bool:=match o.kind with|.a|.c=>true|_=>false
def oI.looks:oI→Bool
 | .load ..|.lookup ..=>true
 | _=>false
structure fZ where
 i:Nat
 o:AO
 tm:Tr V
 v:V
 gt:Bool
 nm:Option Nat
structure Rs where
 i:Nat
 d:Option Nat
 v:V
def eqC:Cap→Cap→Bool
 | .ex k,.ex j=>Nat.beq k j
 | .opn,.opn=>true
 | .any,.any=>true
 | _,_=>false
def Yd:B→B→Bool
 | .int j m,.int k n=>decide (j=k) && eqI m n
 | .bool a,.bool b=>a == b
 | .str m,.str n=>decide (m=n)
 | .nat m,.nat n=>Nat.beq m n
 | .ptr b o,.ptr c p=>Nat.beq b c && Nat.beq o p
 | .MS,.MS=>true
 | .sl b o n c,.sl b' o' n' c'=>Nat.beq b b' && (Nat.beq o o' && (Nat.beq n n' && eqC c c'))
 | .aW,.aW=>true
 | .mp b,.mp c=>Nat.beq b c
 | _,_=>false
def Eu:List B→List B→Bool
 | [],[]=>true
 | x::l,y::r=>Yd x y && Eu l r
 | _,_=>false
def eqV:V→V→Bool
 | .c x,.c y=>Yd x y
 | .agg l,.agg r=>Eu l r
 | .fn f l,.fn g r=>Nat.beq f g && Eu l r
 | .GU,.GU=>true
 | .tnil,.tnil=>true
 | .bZ a r,.bZ b s=>eqV a b && eqV r s
 | _,_=>false
theorem aio {a b:Cap} (h:eqC a b=true):a=b:=by
 cases a <;> cases b <;> first|rfl|cases h|(rw [Nat.eq_of_beq_eq_true h])
theorem aip {a b:Int} (h:eqI a b=true):a=b:=by
 cases a <;> cases b <;> first|cases h|(rw [Nat.eq_of_beq_eq_true h])
theorem Wn {a b:B} (h:Yd a b=true):a=b:=by
 cases a <;> cases b <;> simp only [Yd,Bool.and_eq_true,decide_eq_true_eq,Bool.false_eq_true,beq_iff_eq] at h
 ·rw [h.1,aip h.2]
 ·rw [h]
 ·rw [h]
 ·rw [Nat.eq_of_beq_eq_true h]
 ·rw [Nat.eq_of_beq_eq_true h.1,Nat.eq_of_beq_eq_true h.2]
 ·rfl
 ·rw [Nat.eq_of_beq_eq_true h.1,Nat.eq_of_beq_eq_true h.2.1,Nat.eq_of_beq_eq_true h.2.2.1,aio h.2.2.2]
 ·rfl
 ·rw [Nat.eq_of_beq_eq_true h]
theorem ES : ∀ {l r:List B},Eu l r=true→l=r
 | [],[],_=>rfl
 | _::_,_::_,h=>by
  simp only [Eu,Bool.and_eq_true] at h
  rw [Wn h.1,ES h.2]
 | [],_::_,h=>by cases h
 | _::_,[],h=>by cases h
theorem TK : ∀ {a b:V},eqV a b=true→a=b
 | .c _,.c _,h=>by rw [Wn h]
 | .agg _,.agg _,h=>by rw [ES h]
 | .fn _ _,.fn _ _,h=>by
  simp only [eqV,Bool.and_eq_true] at h
  rw [Nat.eq_of_beq_eq_true h.1,ES h.2]
 | .GU,.GU,_=>rfl
 | .tnil,.tnil,_=>rfl
 | .bZ _ _,.bZ _ _,h=>by
  simp only [eqV,Bool.and_eq_true] at h
  rw [TK h.1,TK h.2]
def again (σ:St) (p:fZ):Bool :=
 bif p.gt then (match p.o.op.kind with
 | .q=>bif p.o.op.looks then (match cO p.o.op p.tm σ with|some u=>eqV u p.v|none=>false) else true
 | .n=>(match jG p.o.op p.tm,p.nm with
  | some (l,_),some b=>(match σ.h.get b with|some ⟨c,none⟩=>Eu c l|_=>false)
  | _,_=>false)
 | _=>false) else true
def CV (aX:Tr V) (res:List Rs):List Nat→Option (Tr V)
 | []=>some aX
 | u::us=>match CV aX res us,res.find? (fun r=>Nat.beq r.i u) with
  | some tm,some r=>zo tm r.d r.v
  | _,_=>none
def vW (bV tm:Tr V):List Nat→Option (Tr V)
 | []=>some tm
 | t::os=>match vW bV tm os with|some tm=>zo tm (some t) (bV.aj t)|none=>none
def G8 (bV aX:Tr V) (res:List Rs) (us os:List Nat):Option (Tr V):=match CV aX res us with|some tm=>vW bV tm os|none=>none
def pU (bV aX:Tr V):List DO→St→List Rs→List fZ→Option (St×List Rs×List fZ)
 | [],σ,res,pd=>some (σ,res,pd)
 | x::l,σ,res,pd=>match G8 bV aX res x.us x.os with
  | some tm=>(match gate x.o.g tm with
   | some true=>(match x.o.op.kind with
    | .q=>(match cO x.o.op tm σ with
     | some v=>pU bV aX l σ (⟨x.i,x.o.dst,v⟩::res) (⟨x.i,x.o,tm,v,true,none⟩::pd)
     | none=>none)
    | .n=>(match jG x.o.op tm with
     | some (c,vf)=>(match σ.new ⟨c,none⟩ with
      | some (b,σ)=>pU bV aX l σ (⟨x.i,x.o.dst,vf b⟩::res) (⟨x.i,x.o,tm,vf b,true,some b⟩::pd)
      | none=>none)
     | none=>none)
    | _=>none)
   | some false=>(match x.o.op.kind with
    | .q|.n=>pU bV aX l σ (⟨x.i,x.o.dst,.tnil⟩::res) (⟨x.i,x.o,tm,.tnil,false,none⟩::pd)
    | _=>none)
   | none=>none)
  | none=>none
def CW (aX:Tr V):List Rs→Option (Tr V)
 | []=>some aX
 | r::l=>match CW aX l with|some tm=>zo tm r.d r.v|none=>none
def vG (tm:Tr V):List Nat→Option (Tr V)
 | []=>some tm
 | d::l=>match vG tm l with|some t=>Tr.put none 40 t d|none=>none
def wX (cl:Nat→List V→St→Option (V×St)) (pt:List (List Nat)) (bV aX:Tr V):Dr→St→List Rs→List fZ→Option (Tr V×St)
 | .fin qs,σ,res,pd=>(match pU bV aX qs σ res pd with
  | some (σ,res,pd)=>bif pd.all (again σ) then (match CW aX res with|some tm=>some (tm,σ)|none=>none) else none
  | none=>none)
 | .act qs x r,σ,res,pd=>(match pU bV aX qs σ res pd with
  | some (σ,res,pd)=>bif pd.all (again σ) then (match G8 bV aX res x.us x.os with
   | some tm=>(match stepG cl x.o tm σ with
    | some (v,σ')=>wX cl pt bV aX r σ' (⟨x.i,x.o.dst,v⟩::res) (pd.filter fun p=>!((pt.getD x.i []).contains p.i))
    | none=>none)
   | none=>none) else none
  | none=>none)
def AL:List V→Nat→Tr V→Option (Tr V)
 | [],_,t=>some t
 | v::r,i,t=>match zo t (some i) v with|some t=>AL r (i+1) t|none=>none
def kY (tm:Tr V) (σ:St):List (Nat×Option (Nat×Bool))→Option V
 | []=>some .tnil
 | (t,none)::r=>match tm.get t,kY tm σ r with|some v,some w=>some (.bZ v w)|_,_=>none
 | (t,some (n,g))::r=>match cO (.load n g (.t t)) tm σ,kY tm σ r with|some v,some w=>some (.bZ v w)|_,_=>none
def result (tm:Tr V) (σ:St) (l:List (Nat×Option (Nat×Bool))):Option V :=
 match kY tm σ l with
 | some (.bZ v .tnil)=>some v
 | r=>r
structure Env where
 fns:Nat→Option AF
 orc:Nat→List V→St→Option (V×St)
def Pv (r:Option (Tr V×St)):Option (AX×Tr V×St):=match r with|some (tm,σ)=>some (.normal,tm,σ)|none=>none
def xDr (cl:Nat→List V→St→Option (V×St)) (d:Dr) (pt:List (List Nat)) (ds:List Nat) (tm:Tr V) (σ:St):Option (AX×Tr V×St) :=
 match vG tm ds with
 | some aX=>Pv (wX cl pt tm aX d σ [] [])
 | none=>none
def aeI (k:Tr V→St→Option (AX×Tr V×St)) (r:Option (AX×Tr V×St)):Option (AX×Tr V×St) :=
 match r with
 | some (.normal,tm,σ)=>k tm σ
 | r=>r
def Wp (k:AC→Option (AX×Tr V×St)) (v:V) (a b:AC):Option (AX×Tr V×St) :=
 match v with
 | .c (.bool t)=>k (bif t then a else b)
 | _=>none
def aaW (i:Nat) (r:Option (AX×Tr V×St)):Option (AX×Tr V×St) :=
 match r with
 | some (.exit j,tm,σ)=>some (bif Nat.beq j i then .normal else .exit j,tm,σ)
 | r=>r
def Ye (res:List (Nat×Option (Nat×Bool))) (r:Option (AX×Tr V×St)):Option (V×St) :=
 match r with
 | some (.normal,tm,σ)|some (.ret,tm,σ)=>(match result tm σ res with|some v=>some (v,σ)|none=>none)
 | _=>none
def AP (orc:Option (V×St)) (fn:Option AF) (args:List V) (σ:St) (k:AC→Tr V→St→Option (AX×Tr V×St)):Option (V×St) :=
 match orc with
 | some v=>some v
 | none=>match fn with
  | some F=>match AL args 0 .leaf with
   | some tm=>Ye F.res (k F.body tm σ)
   | none=>none
  | none=>none
mutual
def exec (E:Env):Nat→AC→Tr V→St→Option (AX×Tr V×St)
 | 0,_,_,_=>none
 | n+1,c,tm,σ=>match c with
  | .skip=>some (.normal,tm,σ)
  | .ops l=>Pv (ng (fQ E n) l tm σ)
  | .drawn d pt ds=>xDr (fQ E n) d pt ds tm σ
  | .seq a b=>aeI (exec E n b) (exec E n a tm σ)
  | .cond x a b=>Wp (fun c=>exec E n c tm σ) (x.ev tm) a b
  | .block i a=>aaW i (exec E n a tm σ)
  | .loop a=>aeI (exec E n (.loop a)) (exec E n a tm σ)
  | .exit i=>some (.exit i,tm,σ)
  | .ret=>some (.ret,tm,σ)
  | .bad=>none
def fQ (E:Env):Nat→Nat→List V→St→Option (V×St)
 | 0,_,_,_=>none
 | n+1,f,args,σ=>AP (E.orc f args σ) (E.fns f) args σ (exec E n)
end
end
class kZ (P:Program):Prop where
 eq:P=Tryz.prog
instance:kZ Tryz.prog:=⟨rfl⟩
namespace ML
theorem laidOut:laidOutB Tryz.prog=true:=by kernel_rfl
theorem row:(102:TypeId)<Tryz.prog.types.size:=of_decide_eq_true (by kernel_rfl)
theorem wide:(match Tryz.prog.underlying 102 with|some (.array _ _)|some (.struct _)=>true|_=>false)=true:=by kernel_rfl
set_option maxRecDepth 100000 in
theorem law:WideMaps.KeyLaw Tryz.prog 102:=deep_law_laid laidOut (m:=3) (by omega) row (by kernel_rfl) wide
theorem keyed:Maps.Keyed Tryz.prog 102:=Maps.Keyed.of_law law
theorem uw (a b:Int) (ha:(Lit.int .i64 a).wf=true) (hb:(Lit.int .i64 b).wf=true) : ∃ l,keyOf Tryz.prog 102 (.agg #[.int .i64 a,.int .i64 b])=some l:=by
 have h1:Tryz.prog.keyType 102=true:=by kernel_rfl
 have h2:(Value.agg #[.int .i64 a,.int .i64 b]).formed Tryz.prog 102=true:=by kernel_rfl
 have aiq:Tryz.prog.cellsOf 102=2:=by kernel_rfl
 have c3:Tryz.prog.cellsOf 3=1:=by kernel_rfl
 have hpos:0<Tryz.prog.types.size:=of_decide_eq_true (by kernel_rfl)
 obtain ⟨m,hm⟩ : ∃ m,Tryz.prog.types.size=m+1:=⟨Tryz.prog.types.size - 1,by omega⟩
 unfold keyOf
 rw [Tryz.underlying102]
 simp only [h1,h2,Value.cells,Bool.and_self,if_true,hm]
 simp [Program.keyLits,Tryz.underlying102,Tryz.underlying3,aiq,c3,ha,hb]
def kv (x:Int×Int):Value:=.agg #[.int .i64 x.1,.int .i64 x.2]
def eqP (x y:Int×Int):Bool:=x.1 == y.1 && x.2 == y.2
def MW (S:List (Int×Int)) (x:Int×Int):Bool:=S.any fun y=>eqP y x
theorem Yf (S:List (Int×Int)) (x y:Int×Int):MW (S ++ [x]) y=(MW S y || eqP x y):=by
 unfold MW;rw [List.any_append];simp
theorem lu {P:Program} {e:TypeId} (he:P.underlying e=some .bool) {v:Value} {z:DataW Unit×List MemPlace} {b:Bool} (h:plainElem P e v=some z) (hz:z.1 = .lit (.bool b)):v = .bool b:=by
 unfold plainElem at h
 rw [he] at h
 cases v with
 | bool x =>
  have h2:=Option.some.inj h
  rw [← h2] at hz
  have h3:=Lit.bool.inj (DataW.lit.inj hz)
  rw [h3]
 | _=>cases h
end ML
open ML
def vX (w:World) (b:Nat) (S:List (Int×Int)):Prop :=
 ∃ n D,n≤S.length∧w.ownsMap (H:=Unit) Tryz.prog 102 (plainElem Tryz.prog 4) b n D∧∀ (x:Int×Int) (l:Lit),keyOf Tryz.prog 102 (kv x)=some l→D.atKey l (.lit (.bool false)) = .lit (.bool (MW S x))
theorem vX.made (w:World):vX (w.alloc (.map #[] 0)) w.heap.size [] :=
 ⟨0,.map [],Nat.le_refl _,World.ownsMap_made _ _ _ _,fun x l _=>by simp [DataW.atKey,MW]⟩
theorem vX.keep {w w' : World} {b:Nat} {S:List (Int×Int)} (h:vX w b S) (hb:w'.heap[b]?=w.heap[b]?):vX w' b S:=by
 obtain ⟨n,D,h1,⟨es,clock,h2,h3⟩,h4⟩:=h
 exact ⟨n,D,h1,⟨es,clock,hb.trans h2,h3⟩,h4⟩
theorem ML.G9 (w:World):(zeroValue 4).run Tryz.prog w = .ok (.bool false) w:=by kernel_rfl
theorem vX.look {w:World} {b:Nat} {S:List (Int×Int)} (h:vX w b S) (x:Int×Int) (he:(Lit.int .i64 x.1).wf=true) (hk:(Lit.int .i64 x.2).wf=true) :
  (Instr.lookup 104 (.map (some b)) (kv x) false).run Tryz.prog w = .ok (.bool (MW S x)) w:=by
 obtain ⟨n,D,h1,h2,h3⟩:=h
 obtain ⟨l,hl⟩:=uw x.1 x.2 he hk
 obtain ⟨v,ps,hr,hv⟩:=h2.lookup keyed Tryz.underlying104 (G9 w) (plainElem_bool Tryz.underlying4 false) hl
 unfold kv
 rw [hr,lu Tryz.underlying4 hv (h3 x l hl)]
theorem vX.store {w:World} {b:Nat} {S:List (Int×Int)} (h:vX w b S) (x:Int×Int) (he:(Lit.int .i64 x.1).wf=true) (hk:(Lit.int .i64 x.2).wf=true) (hS:S.length≤1000000) :
  ∃ w',(Instr.mapUpdate 104 (.map (some b)) (kv x) (.bool true)).run Tryz.prog w = .ok () w'∧vX w' b (S ++ [x])∧w.grownBy w' (some b):=by
 obtain ⟨n,D,h1,h2,h3⟩:=h
 obtain ⟨l,hl⟩:=uw x.1 x.2 he hk
 obtain ⟨w',hr,ho,hg⟩:=h2.update keyed Tryz.underlying104 (by unfold maxLen;omega) hl (plainElem_bool Tryz.underlying4 true)
 refine ⟨w',hr,⟨n+1,_,by simp;omega,ho,fun y l' hl'=>?_⟩,hg⟩
 rw [Yf]
 by_cases e:l' = l
 ·subst e
  have e2:=keyed.inj hl hl'
  have e3:eqP x y=true:=by
   unfold kv at e2
   simp at e2
   unfold eqP;simp [e2]
  rw [e3,Bool.or_true,Maps.atKey_put_same h2.isMap (keyed.key hl)]
 ·rw [Maps.atKey_put_other e,h3 y l' hl']
  have e3:eqP x y=false:=by
   cases e4:eqP x y
   ·rfl
   ·exfalso
    unfold eqP at e4
    simp at e4
    have:kv x=kv y:=by unfold kv;rw [e4.1,e4.2]
    have h5:keyOf Tryz.prog 102 (kv x)=some l:=hl
    rw [this,hl'] at h5
    exact e (Option.some.inj h5)
  rw [e3,Bool.or_false]
def vY:List (Int×Int)→List B
 | []=>[]
 | x::l=>.int .i64 x.1 :: .int .i64 x.2::vY l
theorem TM (l:List (Int×Int)) (x:Int×Int):vY (l ++ [x])=vY l ++ [.int .i64 x.1,.int .i64 x.2]:=by
 induction l with
 | nil=>rfl
 | cons y l ih=>simp [vY,ih]
theorem MZ (l:List (Int×Int)):(vY l).length=2*l.length:=by
 induction l with
 | nil=>rfl
 | cons y l ih=>simp [vY,ih];omega
theorem Wq {a b:Int} : eqI a b=(a == b):=by
 have hn : ∀ m n:Nat,Nat.beq m n=decide (m=n):=fun m n=>by
  by_cases h:m=n
  ·subst h;simp
  ·have h1:Nat.beq m n=false:=by
    cases hb:Nat.beq m n with
    | true=>exact absurd (Nat.eq_of_beq_eq_true hb) h
    | false=>rfl
   rw [h1,decide_eq_false h]
 cases a with
 | ofNat m=>cases b with
  | ofNat n=>show Nat.beq m n=decide (Int.ofNat m=Int.ofNat n);rw [hn];simp;omega
  | negSucc n=>rfl
 | negSucc m=>cases b with
  | ofNat n=>rfl
  | negSucc n=>show Nat.beq m n=decide (Int.negSucc m=Int.negSucc n);rw [hn];simp
theorem Yg (l:List (Int×Int)) (x:Int×Int):hasB (vY l) x.1 x.2=MW l x:=by
 induction l with
 | nil=>rfl
 | cons y l ih =>
  unfold vY hasB MW
  rw [List.any_cons,Wq,Wq,ih]
  unfold eqP
  cases (y.1 == x.1 && y.2 == x.2) <;> rfl
theorem Na {n:Int} (h:Jj .i64 n=true):(Lit.int .i64 n).wf=true:=by
 have hr : -9223372036854775808≤n∧n≤9223372036854775807:=by
  cases n with
  | ofNat m=>have:=Nat.le_of_ble_eq_true h;simp only [Int.ofNat_eq_natCast];omega
  | negSucc m=>have:=Nat.le_of_ble_eq_true h;omega
 simp only [Lit.wf,Bool.and_eq_true,decide_eq_true_eq]
 have h1:IntKind.i64.min = -9223372036854775808:=by decide +kernel
 have h2:IntKind.i64.max=9223372036854775807:=by decide +kernel
 rw [h1,h2]
 exact hr
end Go.Proofs.Xe
