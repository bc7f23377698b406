import Derived.Test.YthkggcakedkboaaGreatDoorY1
import Derived.Laws.AppendOwn
import Derived.Below
import Derived.Test.YthkggcakedkboaaGreatDoorProg
import Derived.Deep.QuietTactic
import Derived.Maps.OwnSet
import Derived.DeepKeys4
import Derived.MapViews
import Derived.Maps.Views
set_option linter.all false
noncomputable section
namespace Go.Proofs.Xe
open Go.RowKit Go.Proofs.Ins
inductive Tt(α:Type) where
 |leaf
 |node (l:Tt α) (v:Option α) (r:Tt α)
inductive ZM where
 |e
 |l (p:ZM)
 |r (p:ZM)
 |bad
def pathOf(d:Nat):Nat->ZM:=
 Nat.rec (motive:=λ_=>Nat->ZM) (λ_=>.bad) (λ_ ih k=>Bool.rec (motive:=λ_=>ZM) (Bool.rec (motive:=λ_=>ZM) (.r (ih (Nat.sub (Nat.div k 2) 1))) (.l (ih (Nat.div k 2))) (Nat.beq (Nat.mod k 2) 1)) .e (Nat.beq k 0)) d
def Aq{α:Type}(p:ZM):Tt α->Option α:=
 ZM.rec (motive:=λ_=>Tt α->Option α) (λt=>Tt.rec (motive:=λ_=>Option α) none (λ_ v _ _ _=>v) t) (λ_ ih t=>Tt.rec (motive:=λ_=>Option α) none (λl _ _ _ _=>ih l) t)
  (λ_ ih t=>Tt.rec (motive:=λ_=>Option α) none (λ_ _ r _ _=>ih r) t) (λ_=>none) p
def aiN{α:Type}(x:Option α)(r:Tt α)(o:Option (Tt α)):Option (Tt α):=Option.rec (motive:=λ_=>Option (Tt α)) none (λl=>some (.node l x r)) o
def aiO{α:Type}(x:Option α)(l:Tt α)(o:Option (Tt α)):Option (Tt α):=Option.rec (motive:=λ_=>Option (Tt α)) none (λr=>some (.node l x r)) o
def GU{α:Type}(v:Option α)(p:ZM):Tt α->Option (Tt α):=
 ZM.rec (motive:=λ_=>Tt α->Option (Tt α)) (λt=>Tt.rec (motive:=λ_=>Option (Tt α)) (some (.node .leaf v .leaf)) (λl _ r _ _=>some (.node l v r)) t)
  (λ_ ih t=>Tt.rec (motive:=λ_=>Option (Tt α)) (aiN none .leaf (ih .leaf)) (λl x r _ _=>aiN x r (ih l)) t)
  (λ_ ih t=>Tt.rec (motive:=λ_=>Option (Tt α)) (aiO none .leaf (ih .leaf)) (λl x r _ _=>aiO x l (ih r)) t) (λ_=>none) p
def Jp{α:Type}(a b:Nat)(x y:α):(bif Nat.beq a b then x else y)=if a=b then x else y:=by simp
def II(d k:Nat):pathOf (d+1) k=if k=0 then .e else if k%2=1 then .l (pathOf d (k/2))else .r (pathOf d (k/2-1)):=by rw[<-Jp,<-Jp];show Bool.rec (motive:=λ_=>ZM) _ _ _=_;show Bool.rec (motive:=λ_=>ZM) (Bool.rec (motive:=λ_=>ZM) (.r (pathOf d (k/2-1))) (.l (pathOf d (k/2))) (Nat.beq (k%2) 1)) .e (Nat.beq k 0)=_;cases Nat.beq k 0<;>cases Nat.beq (k%2) 1<;>rfl
def oC{α:Type}(p:ZM):Aq p (.leaf:Tt α)=none:=by cases p<;>rfl
def Ky{α:Type}(v:Option α):∀(d k j:Nat) (t t':Tt α),GU v (pathOf d k) t=some t'->Aq (pathOf d j) t'=if j=k then v else Aq (pathOf d j) t
 |0,k,j,t,t',h=>by cases h
 |d+1,k,j,t,t',h=>by
  rw[II]at h;rw[II d j];by_cases hk:k=0
  .rw[ae hk]at h;subst hk;cases t with
   |leaf=>
    have h1:some (Tt.node .leaf v .leaf)=some t':=h
    cases h1
    by_cases hj:j=0
    .rw[ae hj,ae hj];rfl
    .rw[ab hj,ab hj,oC]
     split
     .exact oC _
     .exact oC _
   |node l x r=>
    have h1:some (Tt.node l v r)=some t':=h
    cases h1
    by_cases hj:j=0
    .rw[ae hj,ae hj];rfl
    .rw[ab hj,ab hj]
     split
     .rfl
     .rfl
  .rw[ab hk]at h;by_cases hm:k%2=1
   .rw[ae hm]at h;obtain⟨l,x,r,l',e1,e2,e3⟩:∃l x r l',GU v (pathOf d (k/2)) l=some l'/\t'=.node l' x r/\∀j,Aq j t=Aq j (.node l x r)\/(t=.leaf/\l=.leaf/\r=.leaf/\x=none):=by
     cases t with
     |leaf=>
      have h1:aiN none .leaf (GU v (pathOf d (k/2)) .leaf)=some t':=h
      cases hp:GU v (pathOf d (k/2)) .leaf with
      |none=>rw[hp]at h1;cases h1
      |some l'=>rw[hp]at h1;exact⟨.leaf,none,.leaf,l',hp,(dT h1).symm,λ_=>.inr ⟨rfl,rfl,rfl,rfl⟩⟩
     |node l x r=>
      have h1:aiN x r (GU v (pathOf d (k/2)) l)=some t':=h
      cases hp:GU v (pathOf d (k/2)) l with
      |none=>rw[hp]at h1;cases h1
      |some l'=>rw[hp]at h1;exact⟨l,x,r,l',hp,(dT h1).symm,λ_=>.inl rfl⟩
    have e4:∀p,Aq p t=Aq p (.node l x r):=λp=>by
     rcases e3 p with h|⟨rfl,rfl,rfl,rfl⟩
     .exact h
     .rw[oC];cases p<;>first|rfl|exact(oC _).symm
    rw[e4,e2];by_cases hj:j=0
    .rw[ae hj,ab jb];rfl
    .rw[ab hj];by_cases hjm:j%2=1
     .rw[ae hjm];show Aq (pathOf d (j/2)) l'=if j=k then v else Aq (pathOf d (j/2)) l;rw[Ky v d _ _ _ _ e1];grind
     .rw[ab hjm,ab jb];rfl
   .rw[ab hm]at h;obtain⟨l,x,r,r',e1,e2,e3⟩:∃l x r r',GU v (pathOf d (k/2-1)) r=some r'/\t'=.node l x r'/\∀j,Aq j t=Aq j (.node l x r)\/(t=.leaf/\l=.leaf/\r=.leaf/\x=none):=by
     cases t with
     |leaf=>
      have h1:aiO none .leaf (GU v (pathOf d (k/2-1)) .leaf)=some t':=h
      cases hp:GU v (pathOf d (k/2-1)) .leaf with
      |none=>rw[hp]at h1;cases h1
      |some r'=>rw[hp]at h1;exact⟨.leaf,none,.leaf,r',hp,(dT h1).symm,λ_=>.inr ⟨rfl,rfl,rfl,rfl⟩⟩
     |node l x r=>
      have h1:aiO x l (GU v (pathOf d (k/2-1)) r)=some t':=h
      cases hp:GU v (pathOf d (k/2-1)) r with
      |none=>rw[hp]at h1;cases h1
      |some r'=>rw[hp]at h1;exact⟨l,x,r,r',hp,(dT h1).symm,λ_=>.inl rfl⟩
    have e4:∀p,Aq p t=Aq p (.node l x r):=λp=>by
     rcases e3 p with h|⟨rfl,rfl,rfl,rfl⟩
     .exact h
     .rw[oC];cases p<;>first|rfl|exact(oC _).symm
    rw[e4,e2];by_cases hj:j=0
    .rw[ae hj,ab jb];rfl
    .rw[ab hj];by_cases hjm:j%2=1
     .rw[ae hjm,ab (by intro e;subst e;exact hm hjm)];rfl
     .rw[ab hjm];show Aq (pathOf d (j/2-1)) r'=if j=k then v else Aq (pathOf d (j/2-1)) r;rw[Ky v d _ _ _ _ e1];by_cases e:j=k
      .subst e;rw[ae rfl,ae rfl]
      .rw[ab jb,ab e]
inductive Tr(α:Type) where
 |fn (f:Nat->Option α)
 |tree (t:Tt α)
noncomputable section
def Tr.leaf{α:Type}:Tr α:=.tree .leaf
def Tr.get{α:Type}(t:Tr α)(k:Nat):Option α:=match t with|.fn f=>f k|.tree t=>Aq (pathOf 40 k) t
def Tr.set{α:Type}(t:Tr α)(k:Nat)(v:Option α):Tr α:=match t with
 |.fn f=>.fn λj=>if j=k then v else f j
 |.tree t=>match GU v (pathOf 40 k) t with|some t'=>.tree t'|none=>.fn λj=>if j=k then v else Aq (pathOf 40 j) t
def Tr.put{α:Type}(v:Option α)(_:Nat)(t:Tr α)(k:Nat):Option (Tr α):=some (t.set k v)
end
instance {α:Type}:CoeFun (Tr α) (λ_=>Nat->Option α):=⟨Tr.get⟩
theorem Tr.rJ{α:Type}(t:Tr α)(k:Nat)(v:Option α)(j:Nat):(t.set k v).get j=if j=k then v else t.get j:=by
 cases t with
 |fn f=>rfl
 |tree t=>
  unfold Tr.set
  dsimp only
  cases h:GU v (pathOf 40 k) t with
  |none=>rfl
  |some t'=>exact Ky v 40 k j t t' h
def Tr.get_put{α:Type}(v:Option α)(d:Nat)(t t':Tr α)(k j:Nat)(h:Tr.put v d t k=some t'):t'.get j=if j=k then v else t.get j:=by grind[Tr.put,Tr.rJ]
theorem Tr.Kz{α:Type}(k:Nat):(Tr.leaf:Tr α).get k=none:=oC _
inductive Cap where
 |ex (k:Nat)
 |opn
 |any
 deriving DecidableEq
inductive B where
 |int (k:IntKind) (n:Int)
 |bool (b:Bool)
 |str (s:ByteArray)
 |nat (n:Nat)
 |ptr (b o:Nat)
 |Qy
 |sl (b o n:Nat) (c:Cap)
 |bg
 |mp (b:Nat)
 |any
 deriving DecidableEq
inductive V where
 |c (x:B)
 |agg (l:List B)
 |fn (f:Nat) (caps:List B)
 |KA
 |tnil
 |aV (a r:V)
 |und
 deriving DecidableEq
structure Bk where
 cells:List B
 opn:Option (Nat×Nat)
structure St where
 h:Tr Bk
 aj:Nat
inductive O where
 |t (i:Nat)
 |k (v:V)
 deriving DecidableEq
inductive uf where
 |mov (x:O)
 |pick (c a b:O)
 |load (n:Nat) (agg:Bool) (x:O)
 |store (n:Nat) (a x:O)
 |Ar (off:Nat) (x:O)
 |field (off n:Nat) (agg:Bool) (x:O)
 |DT (fU:Nat) (x i:O)
 |ext (i:Nat) (x:O)
 |bin (op:BinOp) (x y:O)
 |eqb (pos:Bool) (x y:O)
 |DU (pos:Bool) (x y:O)
 |E5 (pos:Bool) (x y:O)
 |nil (k:Nat) (pos:Bool) (x:O)
 |not (x:O)
 |conv (k:IntKind) (x:O)
 |build (zero:List B) (parts:List (Nat×Nat×O))
 |N7 (f:Nat) (caps:List O)
 |len (x:O)
 |slice (fU:Nat) (x:O) (lo hi mx:Option O)
 |alloc (zero:List B)
 |box (x:O)
 |I4 (bytes:Nat) (zero:List B) (l c:O)
 |bsl (fU n:Nat) (zero:List B) (parts:List (Nat×Nat×O))
 |app (ty fU bytes:Nat) (s x:O)
 |call (g:O) (args:List O)
 |N8 (x:O)
 |min2 (x y:O)
 |slen (x:O)
 |abC (x i:O)
 |OM (x i:O)
 |XH (x:O)
 |KC
 |IJ
 |lookup (m k:O)
 |Qz (m k v:O)
 |bad
 deriving DecidableEq
structure AO where
 dst:Option Nat
 g:Option (Nat×Bool)
 op:uf
 deriving DecidableEq
structure DO where
 i:Nat
 us:List Nat
 os:List Nat
 o:AO
inductive Dr where
 |fin (qs:List DO)
 |act (qs:List DO) (x:DO) (r:Dr)
inductive AC where
 |skip
 |ops (l:List AO)
 |drawn (d:Dr) (pt:List (List Nat)) (ds:List Nat)
 |seq (a b:AC)
 |cond (c:O) (a b:AC)
 |block (i:Nat) (a:AC)
 |loop (a:AC)
 |exit (i:Nat)
 |ret
 |bad
structure AF where
 n:Nat
 body:AC
 res:List (Nat×Option (Nat×Bool))
inductive AX where
 |normal
 |exit (i:Nat)
 |ret
 deriving DecidableEq
noncomputable section
def Bk.pl(k:Bk):Bool:=match k.opn with|some (0,_)=>false|_=>true
def Bk.rd(k:Bk):Bool:=match k.opn with|some (0,t)=>Nat.beq t 1|_=>true
def V.cells:V->Option (List B)
 |.c x=>some [x]
 |.agg l=>some l
 |_=>none
def Tr.ah(tm:Tr V)(i:Nat):V:=match tm.get i with|some v=>v|none=>.und
def O.ev(tm:Tr V):O->V
 |.t i=>tm.ah i
 |.k v=>v
def GV:IntKind->Int->Bool
 |.i64,.ofNat m=>Nat.ble m 9223372036854775807
 |.i64,.negSucc m=>Nat.ble m 9223372036854775807
 |.u8,.ofNat m=>Nat.ble m 255
 |_,_=>false
def fN{α:Sort _}(m:Nat)(f:Nat->α):α:=match m with|0=>f 0|n+1=>f (n+1)
theorem oU{α:Sort _}(m:Nat)(f:Nat->α):fN m f=f m:=by cases m<;>rfl
def fI{α:Sort _}(m:Int)(f:Int->α):α:=match m with|.ofNat n=>fN n λn=>f (.ofNat n)|.negSucc n=>fN n λn=>f (.negSucc n)
theorem al4{α:Sort _}(m:Int)(f:Int->α):fI m f=f m:=by
 cases m with
 |ofNat n=>exact oU n λn=>f (.ofNat n)
 |negSucc n=>exact oU n λn=>f (.negSucc n)
def mkI(k:IntKind)(n:Int):Option V:=fI n λn=>bif GV k n then some (.c (.int k n))else none
def av5:Bool->V->Bool
 |true,.agg _=>true
 |false,.c _=>true
 |_,_=>false
def B.kn:B->Bool
 |.any=>false
 |_=>true
def Au(l:List B)(o n:Nat)(agg:Bool):Option V:=
 match agg with
 |true=>let r:=(l.drop o).take n
  bif Nat.beq r.length n&&r.all B.kn then some (.agg r)else none
 |false=>match l.drop o with|x::_=>bif x.kn then some (.c x)else none|[]=>none
def yc:List B->Nat->List B->Option (List B)
 |l,0,vs=>bif Nat.ble vs.length l.length then some (vs++l.drop vs.length)else none
 |[],_+1,_=>none
 |x::l,o+1,vs=>match yc l o vs with|some r=>some (x::r)|none=>none
def aea(op:BinOp)(k:IntKind)(a b:Int):Option V:=
 match op with
 |.shr=>bif decide (b<0)then none else some (.c (.int k (a.fdiv (2^(min b.toNat k.bits)))))
 |.shl=>bif decide (b<0)then none else some (.c (.int k (k.wrap (a*2^(min b.toNat k.bits)))))
 |_=>none
def Aw(op:BinOp)(k:IntKind)(a b:Int):Option V:=
 match op with
 |.add=>some (.c (.int k (k.wrap (a+b))))
 |.sub=>some (.c (.int k (k.wrap (a-b))))
 |.mul=>some (.c (.int k (k.wrap (a*b))))
 |.quo=>bif decide (b=0)then none else some (.c (.int k (k.wrap (a.tdiv b))))
 |.rem=>bif decide (b=0)then none else some (.c (.int k (a.tmod b)))
 |.and=>some (.c (.int k (k.wrap ((BitVec.ofInt k.bits a&&&BitVec.ofInt k.bits b).toNat))))
 |.or=>some (.c (.int k (k.wrap ((BitVec.ofInt k.bits a|||BitVec.ofInt k.bits b).toNat))))
 |op=>aea op k a b
def Uh(op:BinOp)(k:IntKind)(a b:Int):Option V:=
 match op with
 |.add=>match k with|.i64=>mkI .i64 (a+b)|k=>Aw .add k a b
 |.sub=>match k with|.i64=>mkI .i64 (a-b)|k=>Aw .sub k a b
 |.mul=>match k with|.i64=>mkI .i64 (a*b)|k=>Aw .mul k a b
 |.eql=>some (.c (.bool (decide (a=b))))
 |.neq=>some (.c (.bool (!decide (a=b))))
 |.lss=>some (.c (.bool (decide (a<b))))
 |.leq=>some (.c (.bool (decide (a<=b))))
 |.gtr=>some (.c (.bool (decide (b<a))))
 |.geq=>some (.c (.bool (decide (b<=a))))
 |op=>Aw op k a b
def rX(op:BinOp):V->V->Option V
 |.c (.int j a),.c (.int k b)=>bif decide (j=k)then Uh op j a b else aea op j a b
 |.c (.str a),.c (.str b)=>match op with|.eql=>some (.c (.bool (decide (a=b))))|.neq=>some (.c (.bool (!decide (a=b))))|_=>none
 |.c (.nat a),.c (.nat b)=>match op with|.eql=>some (.c (.bool (Nat.beq a b)))|.neq=>some (.c (.bool (!Nat.beq a b)))|_=>none
 |.c (.nat a),.c (.str b)=>bif Nat.beq b.size 0 then(match op with|.eql=>some (.c (.bool (Nat.beq a 0)))|.neq=>some (.c (.bool (!Nat.beq a 0)))|_=>none)else none
 |_,_=>none
def B.num:B->Option Nat
 |.nat n=>some n
 |.str s=>bif Nat.beq s.size 0 then some 0 else none
 |_=>none
def eqS(x y:B):Option Bool:=match x,y with
 |.str a,.str b=>some (decide (a=b))
 |x,y=>match x.num,y.num with
  |some m,some n=>some (Nat.beq m n)
  |_,_=>none
def eqB:List B->List B->Option Bool
 |[.bool a,b,c],[.bool d,e,f]=>match eqS b e,eqS c f with|some x,some y=>some ((a==d)&&(x&&y))|_,_=>none
 |_,_=>none
def Az:List B->List (Nat×Nat×V)->Option (List B)
 |z,[]=>some z
 |z,(o,n,v)::r=>match v.cells with
  |some l=>bif Nat.beq l.length n then match yc z o l with|some z=>Az z r|none=>none else none
  |none=>none
def IK:V->Option Nat
 |.c (.int .i64 (.ofNat n))=>some n
 |_=>none
def St.new(σ:St)(k:Bk):Option (Nat×St):=
 match Tr.put (some k) 40 σ.h σ.aj with
 |some h=>fN (σ.aj+1) λm=>some (σ.aj,⟨h,m⟩)
 |none=>none
def rep(z:List B):Nat->List B
 |0=>[]
 |n+1=>z++rep z n
def Ui(b:Option O)(tm:Tr V)(d:Nat):Option Nat:=
 match b with
 |none=>some d
 |some x=>IK (x.ev tm)
def XI(tm:Tr V):List O->Option (List B)
 |[]=>some []
 |x::r=>match x.ev tm,XI tm r with|.c b,some l=>some (b::l)|_,_=>none
def al5(c a b:O)(tm:Tr V):Option V:=
 match c.ev tm with|.c (.bool t)=>some (bif t then a.ev tm else b.ev tm)|_=>none
def ZN(n:Nat)(g:Bool)(x:O)(tm:Tr V)(σ:St):Option V:=
 match x.ev tm with
  |.c (.ptr b o)=>match σ.h.get b with|some k=>bif k.rd then Au k.cells o n g else none|none=>none
  |_=>none
def eqI:Int->Int->Bool
 |.ofNat m,.ofNat n=>Nat.beq m n
 |.negSucc m,.negSucc n=>Nat.beq m n
 |_,_=>false
def hasB:List B->Int->Int->Bool
 |.int _ e:: .int _ k::r,a,b=>bif eqI e a&&eqI k b then true else hasB r a b
 |_,_,_=>false
def ZO(m k:O)(tm:Tr V)(σ:St):Option V:=
 match m.ev tm,k.ev tm with
  |.c (.mp b),.agg [.int .i64 e,.int .i64 j]=>match σ.h.get b with
   |some ⟨c,some (0,0)⟩=>bif GV .i64 e&&GV .i64 j then some (.c (.bool (hasB c e j)))else none
   |_=>none
  |_,_=>none
def XJ(off:Nat)(x:O)(tm:Tr V):Option V:=
 match x.ev tm with|.c (.ptr b o)=>fN (o+off) λm=>some (.c (.ptr b m))|_=>none
def aeb(off n:Nat)(g:Bool)(x:O)(tm:Tr V):Option V:=
 match x.ev tm with|.agg l=>Au l off n g|_=>none
def XK(fU:Nat)(x i:O)(tm:Tr V):Option V:=
 match x.ev tm,IK (i.ev tm)with
  |.c (.sl b o len _),some j=>bif Nat.blt j len then fN (o+j*fU) λm=>some (.c (.ptr b m))else none
  |_,_=>none
def aec(i:Nat)(x:O)(tm:Tr V):Option V:=
 match x.ev tm,i with
  |.aV a _,0=>some a
  |.aV _ (.aV a _),1=>some a
  |.aV _ (.aV _ (.aV a _)),2=>some a
  |_,_=>none
def aqU(p:Bool)(x y:O)(tm:Tr V):Option V:=
 match x.ev tm,y.ev tm with
  |.c (.bool a),.c (.bool b)=>some (.c (.bool (p==(a==b))))
  |_,_=>none
def eqL:List B->List B->Option Bool
 |[.int .i64 a,.int .i64 b],[.int .i64 c,.int .i64 d]=>some (decide (a=c)&&decide (b=d))
 |_,_=>none
def aed(p:Bool)(x y:O)(tm:Tr V):Option V:=
 match x.ev tm,y.ev tm with
  |.agg l,.agg r=>match eqL l r with|some b=>some (.c (.bool (p==b)))|none=>none
  |_,_=>none
def aee(p:Bool)(x y:O)(tm:Tr V):Option V:=
 match x.ev tm,y.ev tm with
  |.agg l,.agg r=>match eqB l r with|some b=>some (.c (.bool (p==b)))|none=>none
  |_,_=>none
def aqV(k:Nat)(p:Bool)(x:O)(tm:Tr V):Option V:=
 match k,x.ev tm with
  |0,.c (.sl ..)=>some (.c (.bool (!p)))
  |0,.c .bg=>some (.c (.bool p))
  |1,.c (.ptr ..)=>some (.c (.bool (!p)))
  |1,.c .Qy=>some (.c (.bool p))
  |2,.fn ..=>some (.c (.bool (!p)))
  |2,.KA=>some (.c (.bool p))
  |_,_=>none
def aqW(x:O)(tm:Tr V):Option V:=
 match x.ev tm with|.c (.bool b)=>some (.c (.bool !b))|_=>none
def al6(k:IntKind)(x:O)(tm:Tr V):Option V:=
 match x.ev tm with|.c (.int _ n)=>bif GV k n then some (.c (.int k n))else some (.c (.int k (k.wrap n)))|_=>none
def aef(z:List B)(ps:List (Nat×Nat×O))(tm:Tr V):Option V:=
 match Az z (ps.map λp=>(p.1,p.2.1,p.2.2.ev tm))with|some l=>some (.agg l)|none=>none
def al7(f:Nat)(cs:List O)(tm:Tr V):Option V:=
 match XI tm cs with|some l=>some (.fn f l)|none=>none
def qlen(x:O)(tm:Tr V):Option V:=
 match x.ev tm with|.c (.sl _ _ n _)=>some (.c (.int .i64 (.ofNat n)))|.c .bg=>some (.c (.int .i64 (.ofNat 0)))|_=>none
def al8(x:O)(tm:Tr V):Option V:=match x.ev tm with|.c (.str s)=>fN s.size λn=>some (.c (.int .i64 (.ofNat n)))|_=>none
def al9(x i:O)(tm:Tr V):Option V:=
 match x.ev tm,IK (i.ev tm)with|.c (.str s),some j=>(match s.data.toList[j]? with|some b=>fN b.toNat λn=>some (.c (.int .u8 (.ofNat n)))|none=>none)|_,_=>none
def aeg(x i:O)(tm:Tr V):Option V:=
 match x.ev tm,IK (i.ev tm)with|.c (.str s),some j=>bif Nat.ble j s.size then some (.c (.str ⟨⟨s.data.toList.drop j⟩⟩))else none|_,_=>none
def byL:List B->Option (List UInt8)
 |[]=>some []
 |.int .u8 (.ofNat n)::r=>match byL r with|some l=>some (UInt8.ofNat n::l)|none=>none
 |_=>none
def ama(x:O)(tm:Tr V)(σ:St):Option V:=
 match x.ev tm with
  |.c (.sl b o n (.ex _))=>(match σ.h.get b with
   |some k=>bif k.rd&&Nat.ble (o+n) k.cells.length then(match byL ((k.cells.drop o).take n)with|some l=>some (.c (.str ⟨⟨l⟩⟩))|none=>none)else none
   |none=>none)
  |_=>none
def KD(fU:Nat)(x:O)(lo hi mx:Option O)(tm:Tr V):Option V:=
 match x.ev tm with
  |.c (.sl b o n c)=>
   match Ui lo tm 0,Ui hi tm n with
   |some l,some h=>bif Nat.ble l h&&Nat.ble h n then
     match mx with
     |none=>(match c with
      |.ex k=>bif Nat.blt l k then fN (o+l*fU) λm=>fN (h-l) λj=>fN (k-l) λq=>some (.c (.sl b m j (.ex q)))else some (.c (.sl b o 0 .any))
      |.opn=>bif Nat.beq l 0 then some (.c (.sl b o h .opn))else bif Nat.blt l n then fN (o+l*fU) λm=>fN (h-l) λj=>some (.c (.sl b m j .any))else some (.c (.sl b o 0 .any))
      |.any=>bif Nat.blt l n then fN (o+l*fU) λm=>fN (h-l) λj=>some (.c (.sl b m j .any))else some (.c (.sl b o 0 .any)))
     |some y=>match IK (y.ev tm)with
      |some q=>bif Nat.ble h q&&Nat.ble q n then bif Nat.beq l 0 then some (.c (.sl b o h (bif Nat.beq n 0 then .any else .ex q)))else none else none
      |none=>none
    else none
   |_,_=>none
  |.c .bg=>match Ui lo tm 0,Ui hi tm 0 with
   |some 0,some 0=>(match mx with|none=>some (.c .bg)|some y=>match IK (y.ev tm)with|some 0=>some (.c .bg)|_=>none)
   |_,_=>none
  |_=>none
def amb(x:O)(tm:Tr V):Option V:=
 match x.ev tm with|.c (.ptr b o)=>some (.c (.ptr b o))|.fn f l=>some (.fn f l)|_=>none
def amc(x y:O)(tm:Tr V):Option V:=
 match x.ev tm,y.ev tm with
  |.c (.int j a),.c (.int k b)=>bif decide (j=k)then(match decide (b<a)with|true=>some (.c (.int k b))|false=>some (.c (.int j a)))else none
  |_,_=>none
def bY(op:uf)(tm:Tr V)(σ:St):Option V:=
 match op with
 |.mov x=>some (x.ev tm)
 |.pick c a b=>al5 c a b tm
 |.load n g x=>ZN n g x tm σ
 |.lookup m k=>ZO m k tm σ
 |.Ar off x=>XJ off x tm
 |.field off n g x=>aeb off n g x tm
 |.DT fU x i=>XK fU x i tm
 |.ext i x=>aec i x tm
 |.bin op x y=>rX op (x.ev tm) (y.ev tm)
 |.eqb p x y=>aqU p x y tm
 |.DU p x y=>aee p x y tm
 |.E5 p x y=>aed p x y tm
 |.nil k p x=>aqV k p x tm
 |.not x=>aqW x tm
 |.conv k x=>al6 k x tm
 |.build z ps=>aef z ps tm
 |.N7 f cs=>al7 f cs tm
 |.len x=>qlen x tm
 |.slice fU x lo hi mx=>KD fU x lo hi mx tm
 |.N8 x=>amb x tm
 |.min2 x y=>amc x y tm
 |.slen x=>al8 x tm
 |.abC x i=>al9 x i tm
 |.OM x i=>aeg x i tm
 |.XH x=>ama x tm σ
 |_=>none
def l9(op:uf)(tm:Tr V):Option (List B×(Nat->V)):=
 match op with
 |.alloc z=>some (z,λb=>.c (.ptr b 0))
 |.box x=>match(x.ev tm).cells with|some l=>some (l,λb=>.c (.ptr b 0))|none=>none
 |.I4 bytes z l c=>match IK (l.ev tm),IK (c.ev tm)with
  |some n,some m=>bif Nat.ble n m&&(Nat.ble (bytes*m) 281474976710656&&Nat.ble m 1073741824)then some (rep z m,λb=>.c (.sl b 0 n (.ex m)))else none
  |_,_=>none
 |.bsl fU n z ps=>bif Nat.ble (n*fU) 16777216&&Nat.ble n 16777216 then match Az (rep z n) (ps.map λp=>(p.1,p.2.1,p.2.2.ev tm))with
  |some l=>some (l,λb=>.c (.sl b 0 n (.ex n)))
  |none=>none else none
 |_=>none
def oV(ty fU bytes:Nat)(s:V)(m:Nat)(news:List B)(σ:St):Option (V×St):=
 match s with
 |.c .bg=>bif Nat.beq m 0 then some (.c .bg,σ)else bif Nat.blt 0 fU&&(Nat.ble (m*bytes) 140737488355328&&Nat.ble m 1073741824)then
   match σ.new ⟨news,some (fU,ty)⟩with|some (b,σ)=>some (.c (.sl b 0 m .opn),σ)|none=>none else none
 |.c (.sl b o n .opn)=>bif Nat.beq m 0 then some (.c (.sl b o n .opn),σ)else match σ.h.get b with
  |some ⟨cells,some (e,t)⟩=>bif Nat.blt 0 e&&Nat.beq o 0&&(Nat.beq e fU&&(Nat.beq t ty&&(Nat.ble ((n+m)*bytes) 140737488355328&&(Nat.ble (n+m) 1073741824&&Nat.ble (n*fU) cells.length))))then
    match Tr.put none 40 σ.h b with
    |some h=>match(⟨h,σ.aj⟩:St).new ⟨cells.take (n*fU)++news,some (fU,ty)⟩with
     |some (b',σ)=>fN (n+m) λq=>some (.c (.sl b' 0 q .opn),σ)
     |none=>none
    |none=>none else none
  |_=>none
 |.c (.sl b o n (.ex k))=>bif Nat.beq m 0 then bif Nat.ble n k then some (.c (.sl b o n (.ex k)),σ)else none else match σ.h.get b with
  |some bk=>bif (bk.rd&&(Nat.blt 0 fU&&((bk.cells.drop o).take (n*fU)).all B.kn))&&Nat.blt k (n+m)&&(Nat.ble ((n+m)*bytes) 140737488355328&&(Nat.ble (n+m) 1073741824&&Nat.ble (o+n*fU) bk.cells.length))then
    match σ.new ⟨(bk.cells.drop o).take (n*fU)++news,some (fU,ty)⟩with
    |some (b',σ)=>fN (n+m) λq=>some (.c (.sl b' 0 q .opn),σ)
    |none=>none
   else bif bk.pl&&Nat.beq o 0&&Nat.ble (n+m) k then(match yc bk.cells (n*fU) news with
    |some l=>(match Tr.put (some ⟨l,bk.opn⟩) 40 σ.h b with
     |some h=>fN (n+m) λq=>some (.c (.sl b 0 q (.ex k)),⟨h,σ.aj⟩)
     |none=>none)
    |none=>none)else none
  |none=>none
 |.c (.sl b o n .any)=>bif Nat.beq m 0 then some (.c (.sl b o n .any),σ)else none
 |_=>none
def rY(op:uf)(tm:Tr V)(σ:St):Option (V×St):=
 match op with
 |.store n a x=>match a.ev tm,(x.ev tm).cells with
  |.c (.ptr b o),some vs=>bif Nat.beq vs.length n then match σ.h.get b with
   |some k=>match bif k.pl then yc k.cells o vs else none with
    |some l=>match Tr.put (some ⟨l,k.opn⟩) 40 σ.h b with|some h=>some (.und,⟨h,σ.aj⟩)|none=>none
    |none=>none
   |none=>none else none
  |_,_=>none
 |.app ty fU bytes s x=>match x.ev tm with
  |.c .bg=>oV ty fU bytes (s.ev tm) 0 [] σ
  |.c (.sl b o m _)=>bif Nat.beq m 0 then oV ty fU bytes (s.ev tm) 0 [] σ else match σ.h.get b with
   |some k=>let l:=(k.cells.drop o).take (m*fU)
    bif k.rd&&(Nat.beq l.length (m*fU)&&l.all B.kn)then oV ty fU bytes (s.ev tm) m l σ else none
   |none=>none
  |_=>none
 |.KC=>some (.und,σ)
 |.IJ=>match σ.new ⟨[],some (0,0)⟩with|some (b,σ)=>some (.c (.mp b),σ)|none=>none
 |.Qz m k x=>match m.ev tm,k.ev tm,x.ev tm with
  |.c (.mp b),.agg [.int .i64 e,.int .i64 j],.c (.bool true)=>match σ.h.get b with
   |some ⟨c,some (0,0)⟩=>bif GV .i64 e&&(GV .i64 j&&Nat.ble c.length 1000)then
     match Tr.put (some ⟨c++[.int .i64 e,.int .i64 j],some (0,0)⟩) 40 σ.h b with|some h=>some (.und,⟨h,σ.aj⟩)|none=>none
    else none
   |_=>none
  |_,_,_=>none
 |_=>none
def ZP(op:uf)(tm:Tr V):Option (Nat×List V):=
 match op with
 |.call g args=>match g.ev tm with
  |.fn f caps=>some (f,args.map (·.ev tm)++caps.map .c)
  |_=>none
 |_=>none
inductive Kd where|q|n|a|c
def uf.kind:uf->Kd
 |.alloc ..|.box ..|.I4 ..|.bsl ..=>.n
 |.store ..|.app ..|.KC|.IJ|.Qz ..=>.a
 |.call ..=>.c
 |_=>.q
def GX(tm:Tr V)(d:Option Nat)(v:V):Option (Tr V):=
 match d with
 |none=>some tm
 |some d=>Tr.put (some v) 40 tm d
def nP(cl:Nat->List V->St->Option (V×St))(op:uf)(tm:Tr V)(σ:St):Option (V×St):=
 match op.kind with
 |.q=>match bY op tm σ with|some v=>some (v,σ)|none=>none
 |.n=>match l9 op tm with
  |some (l,v)=>match σ.new ⟨l,none⟩with|some (b,σ)=>some (v b,σ)|none=>none
  |none=>none
 |.a=>rY op tm σ
 |.c=>match ZP op tm with|some (f,args)=>cl f args σ|none=>none
def gate(g:Option (Nat×Bool))(tm:Tr V):Option Bool:=
 match g with
 |none=>some true
 |some (t,b)=>match tm.ah t with
  |.c (.bool c)=>some (c==b)
  |.tnil=>some false
  |_=>none
def stepG(cl:Nat->List V->St->Option (V×St))(o:AO)(tm:Tr V)(σ:St):Option (V×St):=
 match gate o.g tm with
 |some true=>nP cl o.op tm σ
 |some false=>some (.tnil,σ)
 |none=>none
def qL(cl:Nat->List V->St->Option (V×St)):List AO->Tr V->St->Option (Tr V×St)
 |[],tm,σ=>some (tm,σ)
 |o::r,tm,σ=>match stepG cl o tm σ with
  |some (v,σ)=>match GX tm o.dst v with|some tm=>qL cl r tm σ|none=>none
  |none=>none
def uf.acts(o:uf):Bool:=match o.kind with|.a|.c=>true|_=>false
def uf.looks:uf->Bool
 |.load ..|.lookup ..|.XH ..=>true
 |_=>false
structure iF where
 i:Nat
 o:AO
 tm:Tr V
 v:V
 gt:Bool
 nm:Option Nat
structure Rs where
 i:Nat
 d:Option Nat
 v:V
def eqC:Cap->Cap->Bool
 |.ex k,.ex j=>Nat.beq k j
 |.opn,.opn=>true
 |.any,.any=>true
 |_,_=>false
def abD:B->B->Bool
 |.int j m,.int k n=>decide (j=k)&&eqI m n
 |.bool a,.bool b=>a==b
 |.str m,.str n=>decide (m=n)
 |.nat m,.nat n=>Nat.beq m n
 |.ptr b o,.ptr c p=>Nat.beq b c&&Nat.beq o p
 |.Qy,.Qy=>true
 |.sl b o n c,.sl b' o' n' c'=>Nat.beq b b'&&(Nat.beq o o'&&(Nat.beq n n'&&eqC c c'))
 |.bg,.bg=>true
 |.mp b,.mp c=>Nat.beq b c
 |_,_=>false
def KE:List B->List B->Bool
 |[],[]=>true
 |x::l,y::r=>abD x y&&KE l r
 |_,_=>false
def eqV:V->V->Bool
 |.c x,.c y=>abD x y
 |.agg l,.agg r=>KE l r
 |.fn f l,.fn g r=>Nat.beq f g&&KE l r
 |.KA,.KA=>true
 |.tnil,.tnil=>true
 |.aV a r,.aV b s=>eqV a b&&eqV r s
 |_,_=>false
theorem anb{a b:Cap}(h:eqC a b=true):a=b:=by cases a<;>cases b<;>first|rfl|cases h|(rw[am h])
theorem anc{a b:Int}(h:eqI a b=true):a=b:=by cases a<;>cases b<;>first|cases h|(rw[am h])
def ZQ{a b:B}(h:abD a b=true):a=b:=by
 cases a<;>cases b<;>simp only[abD,af,eQ,cQ,beq_iff_eq]at h
 .grind[anc]
 .rw[h]
 .rw[h]
 .simp_all
 .simp_all
 .rfl
 .grind[Nat.eq_of_beq_eq_true,anb]
 .rfl
 simp_all
theorem Jq:∀{l r:List B},KE l r=true->l=r
 |[],[],_=>rfl
 |_::_,_::_,h=>by simp only[KE,af]at h;rw[ZQ h.1,Jq h.2]
 |[],_::_,h=>by cases h
 |_::_,[],h=>by cases h
theorem XL:∀{a b:V},eqV a b=true->a=b
 |.c _,.c _,h=>by rw[ZQ h]
 |.agg _,.agg _,h=>by rw[Jq h]
 |.fn _ _,.fn _ _,h=>by grind[eqV,Nat.eq_of_beq_eq_true,Jq]
 |.KA,.KA,_=>rfl
 |.tnil,.tnil,_=>rfl
 |.aV _ _,.aV _ _,h=>by simp only[eqV,af]at h;rw[XL h.1,XL h.2]
def again(σ:St)(p:iF):Bool:=
 bif p.gt then(match p.o.op.kind with
 |.q=>bif p.o.op.looks then(match bY p.o.op p.tm σ with|some u=>eqV u p.v|none=>false)else true
 |.n=>(match l9 p.o.op p.tm,p.nm with
  |some (l,_),some b=>(match σ.h.get b with|some ⟨c,none⟩=>KE c l|_=>false)
  |_,_=>false)
 |_=>false)else true
def GY(bH:Tr V)(res:List Rs):List Nat->Option (Tr V)
 |[]=>some bH
 |u::us=>match GY bH res us,res.find? (λr=>Nat.beq r.i u)with
  |some tm,some r=>GX tm r.d r.v
  |_,_=>none
def DV(cO tm:Tr V):List Nat->Option (Tr V)
 |[]=>some tm
 |t::os=>match DV cO tm os with|some tm=>GX tm (some t) (cO.ah t)|none=>none
def KF(cO bH:Tr V)(res:List Rs)(us os:List Nat):Option (Tr V):=match GY bH res us with|some tm=>DV cO tm os|none=>none
def wI(cO bH:Tr V):List DO->St->List Rs->List iF->Option (St×List Rs×List iF)
 |[],σ,res,pd=>some (σ,res,pd)
 |x::l,σ,res,pd=>match KF cO bH res x.us x.os with
  |some tm=>(match gate x.o.g tm with
   |some true=>(match x.o.op.kind with
    |.q=>(match bY x.o.op tm σ with
     |some v=>wI cO bH l σ (⟨x.i,x.o.dst,v⟩::res) (⟨x.i,x.o,tm,v,true,none⟩::pd)
     |none=>none)
    |.n=>(match l9 x.o.op tm with
     |some (c,vf)=>(match σ.new ⟨c,none⟩with
      |some (b,σ)=>wI cO bH l σ (⟨x.i,x.o.dst,vf b⟩::res) (⟨x.i,x.o,tm,vf b,true,some b⟩::pd)
      |none=>none)
     |none=>none)
    |_=>none)
   |some false=>(match x.o.op.kind with
    |.q|.n=>wI cO bH l σ (⟨x.i,x.o.dst,.tnil⟩::res) (⟨x.i,x.o,tm,.tnil,false,none⟩::pd)
    |_=>none)
   |none=>none)
  |none=>none
def I5(bH:Tr V):List Rs->Option (Tr V)
 |[]=>some bH
 |r::l=>match I5 bH l with|some tm=>GX tm r.d r.v|none=>none
def yT(tm:Tr V):List Nat->Option (Tr V)
 |[]=>some tm
 |d::l=>match yT tm l with|some t=>Tr.put none 40 t d|none=>none
def AA(cl:Nat->List V->St->Option (V×St))(pt:List (List Nat))(cO bH:Tr V):Dr->St->List Rs->List iF->Option (Tr V×St)
 |.fin qs,σ,res,pd=>(match wI cO bH qs σ res pd with
  |some (σ,res,pd)=>bif pd.all (again σ)then(match I5 bH res with|some tm=>some (tm,σ)|none=>none)else none
  |none=>none)
 |.act qs x r,σ,res,pd=>(match wI cO bH qs σ res pd with
  |some (σ,res,pd)=>bif pd.all (again σ)then(match KF cO bH res x.us x.os with
   |some tm=>(match stepG cl x.o tm σ with
    |some (v,σ')=>AA cl pt cO bH r σ' (⟨x.i,x.o.dst,v⟩::res) (pd.filter λp=>!((pt.getD x.i []).contains p.i))
    |none=>none)
   |none=>none)else none
  |none=>none)
def E8:List V->Nat->Tr V->Option (Tr V)
 |[],_,t=>some t
 |v::r,i,t=>match GX t (some i) v with|some t=>E8 r (i+1) t|none=>none
def nV(tm:Tr V)(σ:St):List (Nat×Option (Nat×Bool))->Option V
 |[]=>some .tnil
 |(t,none)::r=>match tm.get t,nV tm σ r with|some v,some w=>some (.aV v w)|_,_=>none
 |(t,some (n,g))::r=>match bY (.load n g (.t t)) tm σ,nV tm σ r with|some v,some w=>some (.aV v w)|_,_=>none
def result(tm:Tr V)(σ:St)(l:List (Nat×Option (Nat×Bool))):Option V:=
 match nV tm σ l with
 |some (.aV v .tnil)=>some v
 |r=>r
structure Env where
 fns:Nat->Option AF
 Uj:Nat->List V->St->Option (V×St)
def Uk(r:Option (Tr V×St)):Option (AX×Tr V×St):=match r with|some (tm,σ)=>some (.normal,tm,σ)|none=>none
def xDr(cl:Nat->List V->St->Option (V×St))(d:Dr)(pt:List (List Nat))(ds:List Nat)(tm:Tr V)(σ:St):Option (AX×Tr V×St):=
 match yT tm ds with
 |some bH=>Uk (AA cl pt tm bH d σ [] [])
 |none=>none
def aiP(k:Tr V->St->Option (AX×Tr V×St))(r:Option (AX×Tr V×St)):Option (AX×Tr V×St):=
 match r with
 |some (.normal,tm,σ)=>k tm σ
 |r=>r
def ZR(k:AC->Option (AX×Tr V×St))(v:V)(a b:AC):Option (AX×Tr V×St):=
 match v with
 |.c (.bool t)=>k (bif t then a else b)
 |_=>none
def aeh(i:Nat)(r:Option (AX×Tr V×St)):Option (AX×Tr V×St):=
 match r with
 |some (.exit j,tm,σ)=>some (bif Nat.beq j i then .normal else .exit j,tm,σ)
 |r=>r
def abE(res:List (Nat×Option (Nat×Bool)))(r:Option (AX×Tr V×St)):Option (V×St):=
 match r with
 |some (.normal,tm,σ)|some (.ret,tm,σ)=>(match result tm σ res with|some v=>some (v,σ)|none=>none)
 |_=>none
def Fa(Uj:Option (V×St))(fn:Option AF)(args:List V)(σ:St)(k:AC->Tr V->St->Option (AX×Tr V×St)):Option (V×St):=
 match Uj with
 |some v=>some v
 |none=>match fn with
  |some F=>match E8 args 0 .leaf with
   |some tm=>abE F.res (k F.body tm σ)
   |none=>none
  |none=>none
mutual
def exec(E:Env):Nat->AC->Tr V->St->Option (AX×Tr V×St)
 |0,_,_,_=>none
 |n+1,c,tm,σ=>match c with
  |.skip=>some (.normal,tm,σ)
  |.ops l=>Uk (qL (iJ E n) l tm σ)
  |.drawn d pt ds=>xDr (iJ E n) d pt ds tm σ
  |.seq a b=>aiP (exec E n b) (exec E n a tm σ)
  |.cond x a b=>ZR (λc=>exec E n c tm σ) (x.ev tm) a b
  |.block i a=>aeh i (exec E n a tm σ)
  |.loop a=>aiP (exec E n (.loop a)) (exec E n a tm σ)
  |.exit i=>some (.exit i,tm,σ)
  |.ret=>some (.ret,tm,σ)
  |.bad=>none
def iJ(E:Env):Nat->Nat->List V->St->Option (V×St)
 |0,_,_,_=>none
 |n+1,f,args,σ=>Fa (E.Uj f args σ) (E.fns f) args σ (exec E n)
end
end
class nX (P:Program):Prop where
 eq:P=Tryz.prog
instance:nX Tryz.prog:=⟨rfl⟩
namespace ML
def laidOut:laidOutB Tryz.prog=true:=by kernel_rfl
def row:(68:TypeId)<Tryz.prog.types.size:=dy (by kernel_rfl)
def wide:(match Tryz.prog.underlying 68 with|some (.array _ _)|some (.struct _)=>true|_=>false)=true:=by kernel_rfl
set_option maxRecDepth 100000 in
def law:WideMaps.KeyLaw Tryz.prog 68:=deep_law_laid laidOut (m:=3) jb row (by kernel_rfl) wide
def keyed:Maps.Keyed Tryz.prog 68:=Maps.Keyed.of_law law
def OO(a b:Int)(ha:(Lit.int .i64 a).wf=true)(hb:(Lit.int .i64 b).wf=true):∃l,keyOf Tryz.prog 68 (.agg #[.int .i64 a,.int .i64 b])=some l:=by
 have h1:Tryz.prog.keyType 68=true:=by kernel_rfl
 have h2:(Value.agg #[.int .i64 a,.int .i64 b]).formed Tryz.prog 68=true:=by kernel_rfl
 have auq:Tryz.prog.cellsOf 68=2:=by kernel_rfl
 have c3:Tryz.prog.cellsOf 3=1:=by kernel_rfl
 have hpos:0<Tryz.prog.types.size:=dy (by kernel_rfl);obtain⟨m,hm⟩:∃m,Tryz.prog.types.size=m+1:=⟨Tryz.prog.types.size-1,jb⟩
 unfold keyOf;rw[Tryz.underlying68];simp only[h1,h2,Value.cells,eY,if_true,hm];simp[Program.keyLits,Tryz.underlying68,Tryz.underlying3,auq,c3,ha,hb]
def kv(x:Int×Int):Value:=.agg #[.int .i64 x.1,.int .i64 x.2]
def eqP(x y:Int×Int):Bool:=x.1==y.1&&x.2==y.2
def Ul(S:List (Int×Int))(x:Int×Int):Bool:=S.any λy=>eqP y x
def abG(S:List (Int×Int))(x y:Int×Int):Ul (S++[x]) y=(Ul S y||eqP x y):=by grind[Ul]
def Ea{P:Program}{e:TypeId}(he:P.underlying e=some .bool){v:Value}{z:DataW Unit×List MemPlace}{b:Bool}(h:plainElem P e v=some z)(hz:z.1=.lit (.bool b)):v=.bool b:=by unfold plainElem at h;grind
end ML
open ML
def zW(w:World)(b:Nat)(S:List (Int×Int)):Prop:=
 ∃n D,n<=S.length/\w.ownsMap (H:=Unit) Tryz.prog 68 (plainElem Tryz.prog 4) b n D/\∀(x:Int×Int) (l:Lit),keyOf Tryz.prog 68 (kv x)=some l->D.atKey l (.lit (.bool false))=.lit (.bool (Ul S x))
def zW.made(w:World):zW (w.alloc (.map #[] 0)) w.heap.size []:=
 ⟨0,.map [],jp,World.ownsMap_made _ _ _ _,λx l _=>by rfl⟩
def zW.keep{w w':World}{b:Nat}{S:List (Int×Int)}(h:zW w b S)(hb:w'.heap[b]?=w.heap[b]?):zW w' b S:=by obtain⟨n,D,h1,⟨es,clock,h2,h3⟩,h4⟩:=h;exact⟨n,D,h1,⟨es,clock,hb.trans h2,h3⟩,h4⟩
def ML.aei(w:World):(zeroValue 4).run Tryz.prog w=.ok (.bool false) w:=by kernel_rfl
def zW.look{w:World}{b:Nat}{S:List (Int×Int)}(h:zW w b S)(x:Int×Int)(he:(Lit.int .i64 x.1).wf=true)(hk:(Lit.int .i64 x.2).wf=true):
  (Instr.lookup 103 (.map (some b)) (kv x) false).run Tryz.prog w=.ok (.bool (Ul S x)) w:=by
 obtain⟨n,D,h1,h2,h3⟩:=h
 obtain⟨l,hl⟩:=OO x.1 x.2 he hk
 obtain⟨v,ps,hr,hv⟩:=h2.lookup keyed Tryz.underlying103 (aei w) (plainElem_bool Tryz.underlying4 false) hl
 unfold kv
 rw[hr,Ea Tryz.underlying4 hv (h3 x l hl)]
def zW.store{w:World}{b:Nat}{S:List (Int×Int)}(h:zW w b S)(x:Int×Int)(he:(Lit.int .i64 x.1).wf=true)(hk:(Lit.int .i64 x.2).wf=true)(hS:S.length<=1000000):
  ∃w',(Instr.mapUpdate 103 (.map (some b)) (kv x) (.bool true)).run Tryz.prog w=.ok () w'/\zW w' b (S++[x])/\w.grownBy w' (some b):=by
 obtain⟨n,D,h1,h2,h3⟩:=h
 obtain⟨l,hl⟩:=OO x.1 x.2 he hk
 obtain⟨w',hr,ho,hg⟩:=h2.update keyed Tryz.underlying103 (by unfold maxLen;omega) hl (plainElem_bool Tryz.underlying4 true)
 refine⟨w',hr,⟨n+1,_,by grind,ho,λy l' hl'=>?_⟩,hg⟩
 rw[abG]
 by_cases e:l'=l
 .subst e
  have e2:=keyed.inj hl hl'
  have e3:eqP x y=true:=by grind[kv,eqP]
  rw[e3,Bool.or_true,Maps.atKey_put_same h2.isMap (keyed.key hl)]
 .rw[Maps.atKey_put_other e,h3 y l' hl']
  have e3:eqP x y=false:=by
   cases e4:eqP x y
   .rfl
   .exfalso;unfold eqP at e4;simp at e4;have:kv x=kv y:=by unfold kv;rw[e4.1,e4.2]
    have h5:keyOf Tryz.prog 68 (kv x)=some l:=hl;rw[this,hl']at h5;exact e (dT h5)
  rw[e3,Bool.or_false]
def zX:List (Int×Int)->List B
 |[]=>[]
 |x::l=>.int .i64 x.1:: .int .i64 x.2::zX l
def XM(l:List (Int×Int))(x:Int×Int):zX (l++[x])=zX l++[.int .i64 x.1,.int .i64 x.2]:=by
 induction l with
 |nil=>rfl
 |cons y l ih=>simp[zX,ih]
theorem QA(l:List (Int×Int)):(zX l).length=2*l.length:=by
 induction l with
 |nil=>rfl
 |cons y l ih=>grind[zX]
theorem QB{a b:Int}:eqI a b=(a==b):=by
 have hn:∀m n:Nat,Nat.beq m n=decide (m=n):=λm n=>by
  by_cases h:m=n
  .simp_all
  grind[Nat.eq_of_beq_eq_true]
 cases a with
 |ofNat m=>cases b with
  |ofNat n=>show Nat.beq m n=decide (Int.ofNat m=Int.ofNat n);grind
  |negSucc n=>rfl
 |negSucc m=>cases b with
  |ofNat n=>rfl
  |negSucc n=>show Nat.beq m n=decide (Int.negSucc m=Int.negSucc n);grind
def abH(l:List (Int×Int))(x:Int×Int):hasB (zX l) x.1 x.2=Ul l x:=by
 induction l with
 |nil=>rfl
 |cons y l ih=>
  grind[zX,hasB,Ul,QB,eqP]
def QC{n:Int}(h:GV .i64 n=true):(Lit.int .i64 n).wf=true:=by
 have hr: -9223372036854775808<=n/\n<=9223372036854775807:=by
  cases n with
  |ofNat m=>have:=az h;grind
  |negSucc m=>have:=az h;omega
 simp only[Lit.wf,af,eQ];have h1:IntKind.i64.min=-9223372036854775808:=by rfl
 simp_all
end Go.Proofs.Xe
end
