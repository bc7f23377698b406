import Derived.Test.YthkggcakedkboaaGreatDoorYb1
import Derived.Laws.AppendOwn
import Derived.Below
import Derived.Test.YthkggcakedkboaaGreatDoorProg
import Derived.Deep.QuietTactic
import Derived.Maps.OwnSet
import Derived.DeepKeys4
import Derived.MapViews
import Derived.Maps.Views
set_option linter.all false
noncomputable section
namespace Go.Proofs.Xe
open Go.RowKit Go.Proofs.Ins
inductive Tt(α:Type) where
 |leaf
 |node (l:Tt α) (v:Option α) (r:Tt α)
inductive Pth where
 |e
 |l (p:Pth)
 |r (p:Pth)
 |bad
def pathOf(d:Nat):Nat->Pth:=
 Nat.rec (motive:=λ_=>Nat->Pth) (λ_=>.bad) (λ_ ih k=>Bool.rec (motive:=λ_=>Pth) (Bool.rec (motive:=λ_=>Pth) (.r (ih (Nat.sub (Nat.div k 2) 1))) (.l (ih (Nat.div k 2))) (Nat.beq (Nat.mod k 2) 1)) .e (Nat.beq k 0)) d
def BN{α:Type}(p:Pth):Tt α->Option α:=
 Pth.rec (motive:=λ_=>Tt α->Option α) (λt=>Tt.rec (motive:=λ_=>Option α) none (λ_ v _ _ _=>v) t) (λ_ ih t=>Tt.rec (motive:=λ_=>Option α) none (λl _ _ _ _=>ih l) t)
  (λ_ ih t=>Tt.rec (motive:=λ_=>Option α) none (λ_ _ r _ _=>ih r) t) (λ_=>none) p
def akR{α:Type}(x:Option α)(r:Tt α)(o:Option (Tt α)):Option (Tt α):=Option.rec (motive:=λ_=>Option (Tt α)) none (λl=>some (.node l x r)) o
def akS{α:Type}(x:Option α)(l:Tt α)(o:Option (Tt α)):Option (Tt α):=Option.rec (motive:=λ_=>Option (Tt α)) none (λr=>some (.node l x r)) o
def IY{α:Type}(v:Option α)(p:Pth):Tt α->Option (Tt α):=
 Pth.rec (motive:=λ_=>Tt α->Option (Tt α)) (λt=>Tt.rec (motive:=λ_=>Option (Tt α)) (some (.node .leaf v .leaf)) (λl _ r _ _=>some (.node l v r)) t)
  (λ_ ih t=>Tt.rec (motive:=λ_=>Option (Tt α)) (akR none .leaf (ih .leaf)) (λl x r _ _=>akR x r (ih l)) t)
  (λ_ ih t=>Tt.rec (motive:=λ_=>Option (Tt α)) (akS none .leaf (ih .leaf)) (λl x r _ _=>akS x l (ih r)) t) (λ_=>none) p
def KF{α:Type}(a b:Nat)(x y:α):(bif Nat.beq a b then x else y)=if a=b then x else y:=by simp
def JR(d k:Nat):pathOf (d+1) k=if k=0 then .e else if k%2=1 then .l (pathOf d (k/2))else .r (pathOf d (k/2-1)):=by rw[<-KF,<-KF];show Bool.rec (motive:=λ_=>Pth) _ _ _=_;show Bool.rec (motive:=λ_=>Pth) (Bool.rec (motive:=λ_=>Pth) (.r (pathOf d (k/2-1))) (.l (pathOf d (k/2))) (Nat.beq (k%2) 1)) .e (Nat.beq k 0)=_;cases Nat.beq k 0<;>cases Nat.beq (k%2) 1<;>rfl
def pW{α:Type}(p:Pth):BN p (.leaf:Tt α)=none:=by cases p<;>rfl
def MH{α:Type}(v:Option α):∀(d k j:Nat) (t t':Tt α),IY v (pathOf d k) t=some t'->BN (pathOf d j) t'=if j=k then v else BN (pathOf d j) t
 |0,k,j,t,t',h=>by cases h
 |d+1,k,j,t,t',h=>by
  rw[JR]at h;rw[JR d j];by_cases hk:k=0
  .rw[ab hk]at h;subst hk;cases t with
   |leaf=>
    have h1:some (Tt.node .leaf v .leaf)=some t':=h
    cases h1
    by_cases hj:j=0
    .rw[ab hj,ab hj];rfl
    .rw[ae hj,ae hj,pW]
     split
     .exact pW _
     .exact pW _
   |node l x r=>
    have h1:some (Tt.node l v r)=some t':=h
    cases h1
    by_cases hj:j=0
    .rw[ab hj,ab hj];rfl
    .rw[ae hj,ae hj]
     split
     .rfl
     .rfl
  .rw[ae hk]at h;by_cases hm:k%2=1
   .rw[ab hm]at h;obtain⟨l,x,r,l',e1,e2,e3⟩:∃l x r l',IY v (pathOf d (k/2)) l=some l'/\t'=.node l' x r/\∀j,BN j t=BN j (.node l x r)\/(t=.leaf/\l=.leaf/\r=.leaf/\x=none):=by
     cases t with
     |leaf=>
      have h1:akR none .leaf (IY v (pathOf d (k/2)) .leaf)=some t':=h
      cases hp:IY v (pathOf d (k/2)) .leaf with
      |none=>rw[hp]at h1;cases h1
      |some l'=>rw[hp]at h1;exact⟨.leaf,none,.leaf,l',hp,(ff h1).symm,λ_=>.inr ⟨rfl,rfl,rfl,rfl⟩⟩
     |node l x r=>
      have h1:akR x r (IY v (pathOf d (k/2)) l)=some t':=h
      cases hp:IY v (pathOf d (k/2)) l with
      |none=>rw[hp]at h1;cases h1
      |some l'=>rw[hp]at h1;exact⟨l,x,r,l',hp,(ff h1).symm,λ_=>.inl rfl⟩
    have e4:∀p,BN p t=BN p (.node l x r):=λp=>by
     rcases e3 p with h|⟨rfl,rfl,rfl,rfl⟩
     .exact h
     .rw[pW];cases p<;>first|rfl|exact(pW _).symm
    rw[e4,e2];by_cases hj:j=0
    .rw[ab hj,ae jb];rfl
    .rw[ae hj];by_cases hjm:j%2=1
     .rw[ab hjm];show BN (pathOf d (j/2)) l'=if j=k then v else BN (pathOf d (j/2)) l;rw[MH v d _ _ _ _ e1];grind
     .rw[ae hjm,ae jb];rfl
   .rw[ae hm]at h;obtain⟨l,x,r,r',e1,e2,e3⟩:∃l x r r',IY v (pathOf d (k/2-1)) r=some r'/\t'=.node l x r'/\∀j,BN j t=BN j (.node l x r)\/(t=.leaf/\l=.leaf/\r=.leaf/\x=none):=by
     cases t with
     |leaf=>
      have h1:akS none .leaf (IY v (pathOf d (k/2-1)) .leaf)=some t':=h
      cases hp:IY v (pathOf d (k/2-1)) .leaf with
      |none=>rw[hp]at h1;cases h1
      |some r'=>rw[hp]at h1;exact⟨.leaf,none,.leaf,r',hp,(ff h1).symm,λ_=>.inr ⟨rfl,rfl,rfl,rfl⟩⟩
     |node l x r=>
      have h1:akS x l (IY v (pathOf d (k/2-1)) r)=some t':=h
      cases hp:IY v (pathOf d (k/2-1)) r with
      |none=>rw[hp]at h1;cases h1
      |some r'=>rw[hp]at h1;exact⟨l,x,r,r',hp,(ff h1).symm,λ_=>.inl rfl⟩
    have e4:∀p,BN p t=BN p (.node l x r):=λp=>by
     rcases e3 p with h|⟨rfl,rfl,rfl,rfl⟩
     .exact h
     .rw[pW];cases p<;>first|rfl|exact(pW _).symm
    rw[e4,e2];by_cases hj:j=0
    .rw[ab hj,ae jb];rfl
    .rw[ae hj];by_cases hjm:j%2=1
     .rw[ab hjm,ae (by intro e;subst e;exact hm hjm)];rfl
     .rw[ae hjm];show BN (pathOf d (j/2-1)) r'=if j=k then v else BN (pathOf d (j/2-1)) r;rw[MH v d _ _ _ _ e1];by_cases e:j=k
      .subst e;rw[ab rfl,ab rfl]
      .rw[ae jb,ae e]
inductive Tr(α:Type) where
 |fn (f:Nat->Option α)
 |tree (t:Tt α)
noncomputable section
def Tr.leaf{α:Type}:Tr α:=.tree .leaf
def Tr.get{α:Type}(t:Tr α)(k:Nat):Option α:=match t with|.fn f=>f k|.tree t=>BN (pathOf 40 k) t
def Tr.set{α:Type}(t:Tr α)(k:Nat)(v:Option α):Tr α:=match t with
 |.fn f=>.fn λj=>if j=k then v else f j
 |.tree t=>match IY v (pathOf 40 k) t with|some t'=>.tree t'|none=>.fn λj=>if j=k then v else BN (pathOf 40 j) t
def Tr.put{α:Type}(v:Option α)(_:Nat)(t:Tr α)(k:Nat):Option (Tr α):=some (t.set k v)
end
instance {α:Type}:CoeFun (Tr α) (λ_=>Nat->Option α):=⟨Tr.get⟩
theorem Tr.tX{α:Type}(t:Tr α)(k:Nat)(v:Option α)(j:Nat):(t.set k v).get j=if j=k then v else t.get j:=by
 cases t with
 |fn f=>rfl
 |tree t=>
  unfold Tr.set
  dsimp only
  cases h:IY v (pathOf 40 k) t with
  |none=>rfl
  |some t'=>exact MH v 40 k j t t' h
def Tr.get_put{α:Type}(v:Option α)(d:Nat)(t t':Tr α)(k j:Nat)(h:Tr.put v d t k=some t'):t'.get j=if j=k then v else t.get j:=by grind[Tr.put,Tr.tX]
theorem Tr.MI{α:Type}(k:Nat):(Tr.leaf:Tr α).get k=none:=pW _
inductive Cap where
 |ex (k:Nat)
 |opn
 |any
 deriving DecidableEq
inductive B where
 |int (k:IntKind) (n:Int)
 |bool (b:Bool)
 |str (s:ByteArray)
 |nat (n:Nat)
 |ptr (b o:Nat)
 |Td
 |sl (b o n:Nat) (c:Cap)
 |aX
 |mp (b:Nat)
 |any
 deriving DecidableEq
inductive V where
 |c (x:B)
 |agg (l:List B)
 |fn (f:Nat) (caps:List B)
 |MJ
 |tnil
 |aW (a r:V)
 |und
 deriving DecidableEq
structure Bk where
 cells:List B
 opn:Option (Nat×Nat)
structure St where
 h:Tr Bk
 aj:Nat
inductive O where
 |t (i:Nat)
 |k (v:V)
 deriving DecidableEq
inductive vJ where
 |mov (x:O)
 |pick (c a b:O)
 |load (n:Nat) (agg:Bool) (x:O)
 |store (n:Nat) (a x:O)
 |BO (off:Nat) (x:O)
 |field (off n:Nat) (agg:Bool) (x:O)
 |EU (gJ:Nat) (x i:O)
 |ext (i:Nat) (x:O)
 |bin (op:BinOp) (x y:O)
 |eqb (pos:Bool) (x y:O)
 |EW (pos:Bool) (x y:O)
 |GN (pos:Bool) (x y:O)
 |nil (k:Nat) (pos:Bool) (x:O)
 |not (x:O)
 |conv (k:IntKind) (x:O)
 |build (zero:List B) (parts:List (Nat×Nat×O))
 |PW (f:Nat) (caps:List O)
 |len (x:O)
 |slice (gJ:Nat) (x:O) (lo hi mx:Option O)
 |alloc (zero:List B)
 |box (x:O)
 |J8 (bytes:Nat) (zero:List B) (l c:O)
 |bsl (gJ n:Nat) (zero:List B) (parts:List (Nat×Nat×O))
 |app (ty gJ bytes:Nat) (s x:O)
 |call (g:O) (args:List O)
 |PX (x:O)
 |min2 (x y:O)
 |slen (x:O)
 |adC (x i:O)
 |Qw (x i:O)
 |Zn (x:O)
 |MN
 |JU
 |lookup (m k:O)
 |Tf (m k v:O)
 |bad
 deriving DecidableEq
structure AO where
 dst:Option Nat
 g:Option (Nat×Bool)
 op:vJ
 deriving DecidableEq
structure DO where
 i:Nat
 us:List Nat
 os:List Nat
 o:AO
inductive Dr where
 |fin (qs:List DO)
 |act (qs:List DO) (x:DO) (r:Dr)
inductive AC where
 |skip
 |ops (l:List AO)
 |drawn (d:Dr) (pt:List (List Nat)) (ds:List Nat)
 |seq (a b:AC)
 |cond (c:O) (a b:AC)
 |block (i:Nat) (a:AC)
 |loop (a:AC)
 |exit (i:Nat)
 |ret
 |bad
structure AF where
 n:Nat
 body:AC
 res:List (Nat×Option (Nat×Bool))
inductive AX where
 |normal
 |exit (i:Nat)
 |ret
 deriving DecidableEq
noncomputable section
def Bk.pl(k:Bk):Bool:=match k.opn with|some (0,_)=>false|_=>true
def Bk.rd(k:Bk):Bool:=match k.opn with|some (0,t)=>Nat.beq t 1|_=>true
def V.cells:V->Option (List B)
 |.c x=>some [x]
 |.agg l=>some l
 |_=>none
def Tr.ah(tm:Tr V)(i:Nat):V:=match tm.get i with|some v=>v|none=>.und
def O.ev(tm:Tr V):O->V
 |.t i=>tm.ah i
 |.k v=>v
def IZ:IntKind->Int->Bool
 |.i64,.ofNat m=>Nat.ble m 9223372036854775807
 |.i64,.negSucc m=>Nat.ble m 9223372036854775807
 |.u8,.ofNat m=>Nat.ble m 255
 |_,_=>false
def fN{α:Sort _}(m:Nat)(f:Nat->α):α:=match m with|0=>f 0|n+1=>f (n+1)
theorem qC{α:Sort _}(m:Nat)(f:Nat->α):fN m f=f m:=by cases m<;>rfl
def fI{α:Sort _}(m:Int)(f:Int->α):α:=match m with|.ofNat n=>fN n λn=>f (.ofNat n)|.negSucc n=>fN n λn=>f (.negSucc n)
theorem aom{α:Sort _}(m:Int)(f:Int->α):fI m f=f m:=by
 cases m with
 |ofNat n=>exact qC n λn=>f (.ofNat n)
 |negSucc n=>exact qC n λn=>f (.negSucc n)
def mkI(k:IntKind)(n:Int):Option V:=fI n λn=>bif IZ k n then some (.c (.int k n))else none
def azi:Bool->V->Bool
 |true,.agg _=>true
 |false,.c _=>true
 |_,_=>false
def B.kn:B->Bool
 |.any=>false
 |_=>true
def zH(l:List B)(o n:Nat)(agg:Bool):Option V:=
 match agg with
 |true=>let r:=(l.drop o).take n
  bif Nat.beq r.length n&&r.all B.kn then some (.agg r)else none
 |false=>match l.drop o with|x::_=>bif x.kn then some (.c x)else none|[]=>none
def yj:List B->Nat->List B->Option (List B)
 |l,0,vs=>bif Nat.ble vs.length l.length then some (vs++l.drop vs.length)else none
 |[],_+1,_=>none
 |x::l,o+1,vs=>match yj l o vs with|some r=>some (x::r)|none=>none
def Zo(op:BinOp)(k:IntKind)(a b:Int):Option V:=
 match op with
 |.shr=>bif decide (b<0)then none else some (.c (.int k (a.fdiv (2^(min b.toNat k.bits)))))
 |.shl=>bif decide (b<0)then none else some (.c (.int k (k.wrap (a*2^(min b.toNat k.bits)))))
 |_=>none
def Bl(op:BinOp)(k:IntKind)(a b:Int):Option V:=
 match op with
 |.add=>some (.c (.int k (k.wrap (a+b))))
 |.sub=>some (.c (.int k (k.wrap (a-b))))
 |.mul=>some (.c (.int k (k.wrap (a*b))))
 |.quo=>bif decide (b=0)then none else some (.c (.int k (k.wrap (a.tdiv b))))
 |.rem=>bif decide (b=0)then none else some (.c (.int k (a.tmod b)))
 |.and=>some (.c (.int k (k.wrap ((BitVec.ofInt k.bits a&&&BitVec.ofInt k.bits b).toNat))))
 |.or=>some (.c (.int k (k.wrap ((BitVec.ofInt k.bits a|||BitVec.ofInt k.bits b).toNat))))
 |op=>Zo op k a b
def Ti(op:BinOp)(k:IntKind)(a b:Int):Option V:=
 match op with
 |.add=>match k with|.i64=>mkI .i64 (a+b)|k=>Bl .add k a b
 |.sub=>match k with|.i64=>mkI .i64 (a-b)|k=>Bl .sub k a b
 |.mul=>match k with|.i64=>mkI .i64 (a*b)|k=>Bl .mul k a b
 |.eql=>some (.c (.bool (decide (a=b))))
 |.neq=>some (.c (.bool (!decide (a=b))))
 |.lss=>some (.c (.bool (decide (a<b))))
 |.leq=>some (.c (.bool (decide (a<=b))))
 |.gtr=>some (.c (.bool (decide (b<a))))
 |.geq=>some (.c (.bool (decide (b<=a))))
 |op=>Bl op k a b
def oL(op:BinOp):V->V->Option V
 |.c (.int j a),.c (.int k b)=>bif decide (j=k)then Ti op j a b else Zo op j a b
 |.c (.str a),.c (.str b)=>match op with|.eql=>some (.c (.bool (decide (a=b))))|.neq=>some (.c (.bool (!decide (a=b))))|_=>none
 |.c (.nat a),.c (.nat b)=>match op with|.eql=>some (.c (.bool (Nat.beq a b)))|.neq=>some (.c (.bool (!Nat.beq a b)))|_=>none
 |.c (.nat a),.c (.str b)=>bif Nat.beq b.size 0 then(match op with|.eql=>some (.c (.bool (Nat.beq a 0)))|.neq=>some (.c (.bool (!Nat.beq a 0)))|_=>none)else none
 |_,_=>none
def B.num:B->Option Nat
 |.nat n=>some n
 |.str s=>bif Nat.beq s.size 0 then some 0 else none
 |_=>none
def eqS(x y:B):Option Bool:=match x,y with
 |.str a,.str b=>some (decide (a=b))
 |x,y=>match x.num,y.num with
  |some m,some n=>some (Nat.beq m n)
  |_,_=>none
def eqB:List B->List B->Option Bool
 |[.bool a,b,c],[.bool d,e,f]=>match eqS b e,eqS c f with|some x,some y=>some ((a==d)&&(x&&y))|_,_=>none
 |_,_=>none
def BP:List B->List (Nat×Nat×V)->Option (List B)
 |z,[]=>some z
 |z,(o,n,v)::r=>match v.cells with
  |some l=>bif Nat.beq l.length n then match yj z o l with|some z=>BP z r|none=>none else none
  |none=>none
def JV:V->Option Nat
 |.c (.int .i64 (.ofNat n))=>some n
 |_=>none
def St.new(σ:St)(k:Bk):Option (Nat×St):=
 match Tr.put (some k) 40 σ.h σ.aj with
 |some h=>fN (σ.aj+1) λm=>some (σ.aj,⟨h,m⟩)
 |none=>none
def rep(z:List B):Nat->List B
 |0=>[]
 |n+1=>z++rep z n
def VU(b:Option O)(tm:Tr V)(d:Nat):Option Nat:=
 match b with
 |none=>some d
 |some x=>JV (x.ev tm)
def Zp(tm:Tr V):List O->Option (List B)
 |[]=>some []
 |x::r=>match x.ev tm,Zp tm r with|.c b,some l=>some (b::l)|_,_=>none
def aon(c a b:O)(tm:Tr V):Option V:=
 match c.ev tm with|.c (.bool t)=>some (bif t then a.ev tm else b.ev tm)|_=>none
def abq(n:Nat)(g:Bool)(x:O)(tm:Tr V)(σ:St):Option V:=
 match x.ev tm with
  |.c (.ptr b o)=>match σ.h.get b with|some k=>bif k.rd then zH k.cells o n g else none|none=>none
  |_=>none
def eqI:Int->Int->Bool
 |.ofNat m,.ofNat n=>Nat.beq m n
 |.negSucc m,.negSucc n=>Nat.beq m n
 |_,_=>false
def hasB:List B->Int->Int->Bool
 |.int _ e:: .int _ k::r,a,b=>bif eqI e a&&eqI k b then true else hasB r a b
 |_,_,_=>false
def abr(m k:O)(tm:Tr V)(σ:St):Option V:=
 match m.ev tm,k.ev tm with
  |.c (.mp b),.agg [.int .i64 e,.int .i64 j]=>match σ.h.get b with
   |some ⟨c,some (0,0)⟩=>bif IZ .i64 e&&IZ .i64 j then some (.c (.bool (hasB c e j)))else none
   |_=>none
  |_,_=>none
def Zq(off:Nat)(x:O)(tm:Tr V):Option V:=
 match x.ev tm with|.c (.ptr b o)=>fN (o+off) λm=>some (.c (.ptr b m))|_=>none
def af2(off n:Nat)(g:Bool)(x:O)(tm:Tr V):Option V:=
 match x.ev tm with|.agg l=>zH l off n g|_=>none
def Zr(gJ:Nat)(x i:O)(tm:Tr V):Option V:=
 match x.ev tm,JV (i.ev tm)with
  |.c (.sl b o len _),some j=>bif Nat.blt j len then fN (o+j*gJ) λm=>some (.c (.ptr b m))else none
  |_,_=>none
def af4(i:Nat)(x:O)(tm:Tr V):Option V:=
 match x.ev tm,i with
  |.aW a _,0=>some a
  |.aW _ (.aW a _),1=>some a
  |.aW _ (.aW _ (.aW a _)),2=>some a
  |_,_=>none
def atF(p:Bool)(x y:O)(tm:Tr V):Option V:=
 match x.ev tm,y.ev tm with
  |.c (.bool a),.c (.bool b)=>some (.c (.bool (p==(a==b))))
  |_,_=>none
def eqL:List B->List B->Option Bool
 |[.int .i64 a,.int .i64 b],[.int .i64 c,.int .i64 d]=>some (decide (a=c)&&decide (b=d))
 |_,_=>none
def af5(p:Bool)(x y:O)(tm:Tr V):Option V:=
 match x.ev tm,y.ev tm with
  |.agg l,.agg r=>match eqL l r with|some b=>some (.c (.bool (p==b)))|none=>none
  |_,_=>none
def af6(p:Bool)(x y:O)(tm:Tr V):Option V:=
 match x.ev tm,y.ev tm with
  |.agg l,.agg r=>match eqB l r with|some b=>some (.c (.bool (p==b)))|none=>none
  |_,_=>none
def atG(k:Nat)(p:Bool)(x:O)(tm:Tr V):Option V:=
 match k,x.ev tm with
  |0,.c (.sl ..)=>some (.c (.bool (!p)))
  |0,.c .aX=>some (.c (.bool p))
  |1,.c (.ptr ..)=>some (.c (.bool (!p)))
  |1,.c .Td=>some (.c (.bool p))
  |2,.fn ..=>some (.c (.bool (!p)))
  |2,.MJ=>some (.c (.bool p))
  |_,_=>none
def atH(x:O)(tm:Tr V):Option V:=
 match x.ev tm with|.c (.bool b)=>some (.c (.bool !b))|_=>none
def aoo(k:IntKind)(x:O)(tm:Tr V):Option V:=
 match x.ev tm with|.c (.int _ n)=>bif IZ k n then some (.c (.int k n))else some (.c (.int k (k.wrap n)))|_=>none
def af7(z:List B)(ps:List (Nat×Nat×O))(tm:Tr V):Option V:=
 match BP z (ps.map λp=>(p.1,p.2.1,p.2.2.ev tm))with|some l=>some (.agg l)|none=>none
def aop(f:Nat)(cs:List O)(tm:Tr V):Option V:=
 match Zp tm cs with|some l=>some (.fn f l)|none=>none
def qlen(x:O)(tm:Tr V):Option V:=
 match x.ev tm with|.c (.sl _ _ n _)=>some (.c (.int .i64 (.ofNat n)))|.c .aX=>some (.c (.int .i64 (.ofNat 0)))|_=>none
def aoq(x:O)(tm:Tr V):Option V:=match x.ev tm with|.c (.str s)=>fN s.size λn=>some (.c (.int .i64 (.ofNat n)))|_=>none
def aor(x i:O)(tm:Tr V):Option V:=
 match x.ev tm,JV (i.ev tm)with|.c (.str s),some j=>(match s.data.toList[j]? with|some b=>fN b.toNat λn=>some (.c (.int .u8 (.ofNat n)))|none=>none)|_,_=>none
def af8(x i:O)(tm:Tr V):Option V:=
 match x.ev tm,JV (i.ev tm)with|.c (.str s),some j=>bif Nat.ble j s.size then some (.c (.str ⟨⟨s.data.toList.drop j⟩⟩))else none|_,_=>none
def byL:List B->Option (List UInt8)
 |[]=>some []
 |.int .u8 (.ofNat n)::r=>match byL r with|some l=>some (UInt8.ofNat n::l)|none=>none
 |_=>none
def aot(x:O)(tm:Tr V)(σ:St):Option V:=
 match x.ev tm with
  |.c (.sl b o n (.ex _))=>(match σ.h.get b with
   |some k=>bif k.rd&&Nat.ble (o+n) k.cells.length then(match byL ((k.cells.drop o).take n)with|some l=>some (.c (.str ⟨⟨l⟩⟩))|none=>none)else none
   |none=>none)
  |_=>none
def MO(gJ:Nat)(x:O)(lo hi mx:Option O)(tm:Tr V):Option V:=
 match x.ev tm with
  |.c (.sl b o n c)=>
   match VU lo tm 0,VU hi tm n with
   |some l,some h=>bif Nat.ble l h&&Nat.ble h n then
     match mx with
     |none=>(match c with
      |.ex k=>bif Nat.blt l k then fN (o+l*gJ) λm=>fN (h-l) λj=>fN (k-l) λq=>some (.c (.sl b m j (.ex q)))else some (.c (.sl b o 0 .any))
      |.opn=>bif Nat.beq l 0 then some (.c (.sl b o h .opn))else bif Nat.blt l n then fN (o+l*gJ) λm=>fN (h-l) λj=>some (.c (.sl b m j .any))else some (.c (.sl b o 0 .any))
      |.any=>bif Nat.blt l n then fN (o+l*gJ) λm=>fN (h-l) λj=>some (.c (.sl b m j .any))else some (.c (.sl b o 0 .any)))
     |some y=>match JV (y.ev tm)with
      |some q=>bif Nat.ble h q&&Nat.ble q n then bif Nat.beq l 0 then some (.c (.sl b o h (bif Nat.beq n 0 then .any else .ex q)))else none else none
      |none=>none
    else none
   |_,_=>none
  |.c .aX=>match VU lo tm 0,VU hi tm 0 with
   |some 0,some 0=>(match mx with|none=>some (.c .aX)|some y=>match JV (y.ev tm)with|some 0=>some (.c .aX)|_=>none)
   |_,_=>none
  |_=>none
def aou(x:O)(tm:Tr V):Option V:=
 match x.ev tm with|.c (.ptr b o)=>some (.c (.ptr b o))|.fn f l=>some (.fn f l)|_=>none
def aov(x y:O)(tm:Tr V):Option V:=
 match x.ev tm,y.ev tm with
  |.c (.int j a),.c (.int k b)=>bif decide (j=k)then(match decide (b<a)with|true=>some (.c (.int k b))|false=>some (.c (.int j a)))else none
  |_,_=>none
def dB(op:vJ)(tm:Tr V)(σ:St):Option V:=
 match op with
 |.mov x=>some (x.ev tm)
 |.pick c a b=>aon c a b tm
 |.load n g x=>abq n g x tm σ
 |.lookup m k=>abr m k tm σ
 |.BO off x=>Zq off x tm
 |.field off n g x=>af2 off n g x tm
 |.EU gJ x i=>Zr gJ x i tm
 |.ext i x=>af4 i x tm
 |.bin op x y=>oL op (x.ev tm) (y.ev tm)
 |.eqb p x y=>atF p x y tm
 |.EW p x y=>af6 p x y tm
 |.GN p x y=>af5 p x y tm
 |.nil k p x=>atG k p x tm
 |.not x=>atH x tm
 |.conv k x=>aoo k x tm
 |.build z ps=>af7 z ps tm
 |.PW f cs=>aop f cs tm
 |.len x=>qlen x tm
 |.slice gJ x lo hi mx=>MO gJ x lo hi mx tm
 |.PX x=>aou x tm
 |.min2 x y=>aov x y tm
 |.slen x=>aoq x tm
 |.adC x i=>aor x i tm
 |.Qw x i=>af8 x i tm
 |.Zn x=>aot x tm σ
 |_=>none
def ng(op:vJ)(tm:Tr V):Option (List B×(Nat->V)):=
 match op with
 |.alloc z=>some (z,λb=>.c (.ptr b 0))
 |.box x=>match(x.ev tm).cells with|some l=>some (l,λb=>.c (.ptr b 0))|none=>none
 |.J8 bytes z l c=>match JV (l.ev tm),JV (c.ev tm)with
  |some n,some m=>bif Nat.ble n m&&(Nat.ble (bytes*m) 281474976710656&&Nat.ble m 1073741824)then some (rep z m,λb=>.c (.sl b 0 n (.ex m)))else none
  |_,_=>none
 |.bsl gJ n z ps=>bif Nat.ble (n*gJ) 16777216&&Nat.ble n 16777216 then match BP (rep z n) (ps.map λp=>(p.1,p.2.1,p.2.2.ev tm))with
  |some l=>some (l,λb=>.c (.sl b 0 n (.ex n)))
  |none=>none else none
 |_=>none
def qE(ty gJ bytes:Nat)(s:V)(m:Nat)(news:List B)(σ:St):Option (V×St):=
 match s with
 |.c .aX=>bif Nat.beq m 0 then some (.c .aX,σ)else bif Nat.blt 0 gJ&&(Nat.ble (m*bytes) 140737488355328&&Nat.ble m 1073741824)then
   match σ.new ⟨news,some (gJ,ty)⟩with|some (b,σ)=>some (.c (.sl b 0 m .opn),σ)|none=>none else none
 |.c (.sl b o n .opn)=>bif Nat.beq m 0 then some (.c (.sl b o n .opn),σ)else match σ.h.get b with
  |some ⟨cells,some (e,t)⟩=>bif Nat.blt 0 e&&Nat.beq o 0&&(Nat.beq e gJ&&(Nat.beq t ty&&(Nat.ble ((n+m)*bytes) 140737488355328&&(Nat.ble (n+m) 1073741824&&Nat.ble (n*gJ) cells.length))))then
    match Tr.put none 40 σ.h b with
    |some h=>match(⟨h,σ.aj⟩:St).new ⟨cells.take (n*gJ)++news,some (gJ,ty)⟩with
     |some (b',σ)=>fN (n+m) λq=>some (.c (.sl b' 0 q .opn),σ)
     |none=>none
    |none=>none else none
  |_=>none
 |.c (.sl b o n (.ex k))=>bif Nat.beq m 0 then bif Nat.ble n k then some (.c (.sl b o n (.ex k)),σ)else none else match σ.h.get b with
  |some bk=>bif (bk.rd&&(Nat.blt 0 gJ&&((bk.cells.drop o).take (n*gJ)).all B.kn))&&Nat.blt k (n+m)&&(Nat.ble ((n+m)*bytes) 140737488355328&&(Nat.ble (n+m) 1073741824&&Nat.ble (o+n*gJ) bk.cells.length))then
    match σ.new ⟨(bk.cells.drop o).take (n*gJ)++news,some (gJ,ty)⟩with
    |some (b',σ)=>fN (n+m) λq=>some (.c (.sl b' 0 q .opn),σ)
    |none=>none
   else bif bk.pl&&Nat.beq o 0&&Nat.ble (n+m) k then(match yj bk.cells (n*gJ) news with
    |some l=>(match Tr.put (some ⟨l,bk.opn⟩) 40 σ.h b with
     |some h=>fN (n+m) λq=>some (.c (.sl b 0 q (.ex k)),⟨h,σ.aj⟩)
     |none=>none)
    |none=>none)else none
  |none=>none
 |.c (.sl b o n .any)=>bif Nat.beq m 0 then some (.c (.sl b o n .any),σ)else none
 |_=>none
def um(op:vJ)(tm:Tr V)(σ:St):Option (V×St):=
 match op with
 |.store n a x=>match a.ev tm,(x.ev tm).cells with
  |.c (.ptr b o),some vs=>bif Nat.beq vs.length n then match σ.h.get b with
   |some k=>match bif k.pl then yj k.cells o vs else none with
    |some l=>match Tr.put (some ⟨l,k.opn⟩) 40 σ.h b with|some h=>some (.und,⟨h,σ.aj⟩)|none=>none
    |none=>none
   |none=>none else none
  |_,_=>none
 |.app ty gJ bytes s x=>match x.ev tm with
  |.c .aX=>qE ty gJ bytes (s.ev tm) 0 [] σ
  |.c (.sl b o m _)=>bif Nat.beq m 0 then qE ty gJ bytes (s.ev tm) 0 [] σ else match σ.h.get b with
   |some k=>let l:=(k.cells.drop o).take (m*gJ)
    bif k.rd&&(Nat.beq l.length (m*gJ)&&l.all B.kn)then qE ty gJ bytes (s.ev tm) m l σ else none
   |none=>none
  |_=>none
 |.MN=>some (.und,σ)
 |.JU=>match σ.new ⟨[],some (0,0)⟩with|some (b,σ)=>some (.c (.mp b),σ)|none=>none
 |.Tf m k x=>match m.ev tm,k.ev tm,x.ev tm with
  |.c (.mp b),.agg [.int .i64 e,.int .i64 j],.c (.bool true)=>match σ.h.get b with
   |some ⟨c,some (0,0)⟩=>bif IZ .i64 e&&(IZ .i64 j&&Nat.ble c.length 1000)then
     match Tr.put (some ⟨c++[.int .i64 e,.int .i64 j],some (0,0)⟩) 40 σ.h b with|some h=>some (.und,⟨h,σ.aj⟩)|none=>none
    else none
   |_=>none
  |_,_,_=>none
 |_=>none
def abt(op:vJ)(tm:Tr V):Option (Nat×List V):=
 match op with
 |.call g args=>match g.ev tm with
  |.fn f caps=>some (f,args.map (·.ev tm)++caps.map .c)
  |_=>none
 |_=>none
inductive Kd where|q|n|a|c
def vJ.kind:vJ->Kd
 |.alloc ..|.box ..|.J8 ..|.bsl ..=>.n
 |.store ..|.app ..|.MN|.JU|.Tf ..=>.a
 |.call ..=>.c
 |_=>.q
def I4(tm:Tr V)(d:Option Nat)(v:V):Option (Tr V):=
 match d with
 |none=>some tm
 |some d=>Tr.put (some v) 40 tm d
def oO(cl:Nat->List V->St->Option (V×St))(op:vJ)(tm:Tr V)(σ:St):Option (V×St):=
 match op.kind with
 |.q=>match dB op tm σ with|some v=>some (v,σ)|none=>none
 |.n=>match ng op tm with
  |some (l,v)=>match σ.new ⟨l,none⟩with|some (b,σ)=>some (v b,σ)|none=>none
  |none=>none
 |.a=>um op tm σ
 |.c=>match abt op tm with|some (f,args)=>cl f args σ|none=>none
def gate(g:Option (Nat×Bool))(tm:Tr V):Option Bool:=
 match g with
 |none=>some true
 |some (t,b)=>match tm.ah t with
  |.c (.bool c)=>some (c==b)
  |.tnil=>some false
  |_=>none
def stepG(cl:Nat->List V->St->Option (V×St))(o:AO)(tm:Tr V)(σ:St):Option (V×St):=
 match gate o.g tm with
 |some true=>oO cl o.op tm σ
 |some false=>some (.tnil,σ)
 |none=>none
def sF(cl:Nat->List V->St->Option (V×St)):List AO->Tr V->St->Option (Tr V×St)
 |[],tm,σ=>some (tm,σ)
 |o::r,tm,σ=>match stepG cl o tm σ with
  |some (v,σ)=>match I4 tm o.dst v with|some tm=>sF cl r tm σ|none=>none
  |none=>none
def vJ.acts(o:vJ):Bool:=match o.kind with|.a|.c=>true|_=>false
def vJ.looks:vJ->Bool
 |.load ..|.lookup ..|.Zn ..=>true
 |_=>false
structure iM where
 i:Nat
 o:AO
 tm:Tr V
 v:V
 gt:Bool
 nm:Option Nat
structure Rs where
 i:Nat
 d:Option Nat
 v:V
def eqC:Cap->Cap->Bool
 |.ex k,.ex j=>Nat.beq k j
 |.opn,.opn=>true
 |.any,.any=>true
 |_,_=>false
def adE:B->B->Bool
 |.int j m,.int k n=>decide (j=k)&&eqI m n
 |.bool a,.bool b=>a==b
 |.str m,.str n=>decide (m=n)
 |.nat m,.nat n=>Nat.beq m n
 |.ptr b o,.ptr c p=>Nat.beq b c&&Nat.beq o p
 |.Td,.Td=>true
 |.sl b o n c,.sl b' o' n' c'=>Nat.beq b b'&&(Nat.beq o o'&&(Nat.beq n n'&&eqC c c'))
 |.aX,.aX=>true
 |.mp b,.mp c=>Nat.beq b c
 |_,_=>false
def MP:List B->List B->Bool
 |[],[]=>true
 |x::l,y::r=>adE x y&&MP l r
 |_,_=>false
def eqV:V->V->Bool
 |.c x,.c y=>adE x y
 |.agg l,.agg r=>MP l r
 |.fn f l,.fn g r=>Nat.beq f g&&MP l r
 |.MJ,.MJ=>true
 |.tnil,.tnil=>true
 |.aW a r,.aW b s=>eqV a b&&eqV r s
 |_,_=>false
theorem apx{a b:Cap}(h:eqC a b=true):a=b:=by cases a<;>cases b<;>first|rfl|cases h|(rw[ap h])
theorem apy{a b:Int}(h:eqI a b=true):a=b:=by cases a<;>cases b<;>first|cases h|(rw[ap h])
def abu{a b:B}(h:adE a b=true):a=b:=by
 cases a<;>cases b<;>simp only[adE,af,ga,dq,beq_iff_eq]at h
 .grind[apy]
 .rw[h]
 .rw[h]
 .simp_all
 .simp_all
 .rfl
 .grind[Nat.eq_of_beq_eq_true,apx]
 .rfl
 simp_all
theorem KG:∀{l r:List B},MP l r=true->l=r
 |[],[],_=>rfl
 |_::_,_::_,h=>by simp only[MP,af]at h;rw[abu h.1,KG h.2]
 |[],_::_,h=>by cases h
 |_::_,[],h=>by cases h
theorem Zt:∀{a b:V},eqV a b=true->a=b
 |.c _,.c _,h=>by rw[abu h]
 |.agg _,.agg _,h=>by rw[KG h]
 |.fn _ _,.fn _ _,h=>by grind[eqV,Nat.eq_of_beq_eq_true,KG]
 |.MJ,.MJ,_=>rfl
 |.tnil,.tnil,_=>rfl
 |.aW _ _,.aW _ _,h=>by simp only[eqV,af]at h;rw[Zt h.1,Zt h.2]
def again(σ:St)(p:iM):Bool:=
 bif p.gt then(match p.o.op.kind with
 |.q=>bif p.o.op.looks then(match dB p.o.op p.tm σ with|some u=>eqV u p.v|none=>false)else true
 |.n=>(match ng p.o.op p.tm,p.nm with
  |some (l,_),some b=>(match σ.h.get b with|some ⟨c,none⟩=>MP c l|_=>false)
  |_,_=>false)
 |_=>false)else true
def I5(bU:Tr V)(res:List Rs):List Nat->Option (Tr V)
 |[]=>some bU
 |u::us=>match I5 bU res us,res.find? (λr=>Nat.beq r.i u)with
  |some tm,some r=>I4 tm r.d r.v
  |_,_=>none
def E5(dI tm:Tr V):List Nat->Option (Tr V)
 |[]=>some tm
 |t::os=>match E5 dI tm os with|some tm=>I4 tm (some t) (dI.ah t)|none=>none
def MQ(dI bU:Tr V)(res:List Rs)(us os:List Nat):Option (Tr V):=match I5 bU res us with|some tm=>E5 dI tm os|none=>none
def xQ(dI bU:Tr V):List DO->St->List Rs->List iM->Option (St×List Rs×List iM)
 |[],σ,res,pd=>some (σ,res,pd)
 |x::l,σ,res,pd=>match MQ dI bU res x.us x.os with
  |some tm=>(match gate x.o.g tm with
   |some true=>(match x.o.op.kind with
    |.q=>(match dB x.o.op tm σ with
     |some v=>xQ dI bU l σ (⟨x.i,x.o.dst,v⟩::res) (⟨x.i,x.o,tm,v,true,none⟩::pd)
     |none=>none)
    |.n=>(match ng x.o.op tm with
     |some (c,vf)=>(match σ.new ⟨c,none⟩with
      |some (b,σ)=>xQ dI bU l σ (⟨x.i,x.o.dst,vf b⟩::res) (⟨x.i,x.o,tm,vf b,true,some b⟩::pd)
      |none=>none)
     |none=>none)
    |_=>none)
   |some false=>(match x.o.op.kind with
    |.q|.n=>xQ dI bU l σ (⟨x.i,x.o.dst,.tnil⟩::res) (⟨x.i,x.o,tm,.tnil,false,none⟩::pd)
    |_=>none)
   |none=>none)
  |none=>none
def J9(bU:Tr V):List Rs->Option (Tr V)
 |[]=>some bU
 |r::l=>match J9 bU l with|some tm=>I4 tm r.d r.v|none=>none
def Ak(tm:Tr V):List Nat->Option (Tr V)
 |[]=>some tm
 |d::l=>match Ak tm l with|some t=>Tr.put none 40 t d|none=>none
def BQ(cl:Nat->List V->St->Option (V×St))(pt:List (List Nat))(dI bU:Tr V):Dr->St->List Rs->List iM->Option (Tr V×St)
 |.fin qs,σ,res,pd=>(match xQ dI bU qs σ res pd with
  |some (σ,res,pd)=>bif pd.all (again σ)then(match J9 bU res with|some tm=>some (tm,σ)|none=>none)else none
  |none=>none)
 |.act qs x r,σ,res,pd=>(match xQ dI bU qs σ res pd with
  |some (σ,res,pd)=>bif pd.all (again σ)then(match MQ dI bU res x.us x.os with
   |some tm=>(match stepG cl x.o tm σ with
    |some (v,σ')=>BQ cl pt dI bU r σ' (⟨x.i,x.o.dst,v⟩::res) (pd.filter λp=>!((pt.getD x.i []).contains p.i))
    |none=>none)
   |none=>none)else none
  |none=>none)
def GR:List V->Nat->Tr V->Option (Tr V)
 |[],_,t=>some t
 |v::r,i,t=>match I4 t (some i) v with|some t=>GR r (i+1) t|none=>none
def oW(tm:Tr V)(σ:St):List (Nat×Option (Nat×Bool))->Option V
 |[]=>some .tnil
 |(t,none)::r=>match tm.get t,oW tm σ r with|some v,some w=>some (.aW v w)|_,_=>none
 |(t,some (n,g))::r=>match dB (.load n g (.t t)) tm σ,oW tm σ r with|some v,some w=>some (.aW v w)|_,_=>none
def result(tm:Tr V)(σ:St)(l:List (Nat×Option (Nat×Bool))):Option V:=
 match oW tm σ l with
 |some (.aW v .tnil)=>some v
 |r=>r
structure Env where
 fns:Nat->Option AF
 VW:Nat->List V->St->Option (V×St)
def VX(r:Option (Tr V×St)):Option (AX×Tr V×St):=match r with|some (tm,σ)=>some (.normal,tm,σ)|none=>none
def xDr(cl:Nat->List V->St->Option (V×St))(d:Dr)(pt:List (List Nat))(ds:List Nat)(tm:Tr V)(σ:St):Option (AX×Tr V×St):=
 match Ak tm ds with
 |some bU=>VX (BQ cl pt tm bU d σ [] [])
 |none=>none
def akT(k:Tr V->St->Option (AX×Tr V×St))(r:Option (AX×Tr V×St)):Option (AX×Tr V×St):=
 match r with
 |some (.normal,tm,σ)=>k tm σ
 |r=>r
def abv(k:AC->Option (AX×Tr V×St))(v:V)(a b:AC):Option (AX×Tr V×St):=
 match v with
 |.c (.bool t)=>k (bif t then a else b)
 |_=>none
def af9(i:Nat)(r:Option (AX×Tr V×St)):Option (AX×Tr V×St):=
 match r with
 |some (.exit j,tm,σ)=>some (bif Nat.beq j i then .normal else .exit j,tm,σ)
 |r=>r
def adF(res:List (Nat×Option (Nat×Bool)))(r:Option (AX×Tr V×St)):Option (V×St):=
 match r with
 |some (.normal,tm,σ)|some (.ret,tm,σ)=>(match result tm σ res with|some v=>some (v,σ)|none=>none)
 |_=>none
def GU(VW:Option (V×St))(fn:Option AF)(args:List V)(σ:St)(k:AC->Tr V->St->Option (AX×Tr V×St)):Option (V×St):=
 match VW with
 |some v=>some v
 |none=>match fn with
  |some F=>match GR args 0 .leaf with
   |some tm=>adF F.res (k F.body tm σ)
   |none=>none
  |none=>none
mutual
def exec(E:Env):Nat->AC->Tr V->St->Option (AX×Tr V×St)
 |0,_,_,_=>none
 |n+1,c,tm,σ=>match c with
  |.skip=>some (.normal,tm,σ)
  |.ops l=>VX (sF (iR E n) l tm σ)
  |.drawn d pt ds=>xDr (iR E n) d pt ds tm σ
  |.seq a b=>akT (exec E n b) (exec E n a tm σ)
  |.cond x a b=>abv (λc=>exec E n c tm σ) (x.ev tm) a b
  |.block i a=>af9 i (exec E n a tm σ)
  |.loop a=>akT (exec E n (.loop a)) (exec E n a tm σ)
  |.exit i=>some (.exit i,tm,σ)
  |.ret=>some (.ret,tm,σ)
  |.bad=>none
def iR(E:Env):Nat->Nat->List V->St->Option (V×St)
 |0,_,_,_=>none
 |n+1,f,args,σ=>GU (E.VW f args σ) (E.fns f) args σ (exec E n)
end
end
class oZ (P:Program):Prop where
 eq:P=Tryz.prog
instance:oZ Tryz.prog:=⟨rfl⟩
namespace ML
def laidOut:laidOutB Tryz.prog=true:=by kernel_rfl
def row:(68:TypeId)<Tryz.prog.types.size:=dj (by kernel_rfl)
def wide:(match Tryz.prog.underlying 68 with|some (.array _ _)|some (.struct _)=>true|_=>false)=true:=by kernel_rfl
set_option maxRecDepth 100000 in
def law:WideMaps.KeyLaw Tryz.prog 68:=deep_law_laid laidOut (m:=3) jb row (by kernel_rfl) wide
def keyed:Maps.Keyed Tryz.prog 68:=Maps.Keyed.of_law law
def Qx(a b:Int)(ha:(Lit.int .i64 a).wf=true)(hb:(Lit.int .i64 b).wf=true):∃l,keyOf Tryz.prog 68 (.agg #[.int .i64 a,.int .i64 b])=some l:=by
 have h1:Tryz.prog.keyType 68=true:=by kernel_rfl
 have h2:(Value.agg #[.int .i64 a,.int .i64 b]).formed Tryz.prog 68=true:=by kernel_rfl
 have axc:Tryz.prog.cellsOf 68=2:=by kernel_rfl
 have c3:Tryz.prog.cellsOf 3=1:=by kernel_rfl
 have hpos:0<Tryz.prog.types.size:=dj (by kernel_rfl);obtain⟨m,hm⟩:∃m,Tryz.prog.types.size=m+1:=⟨Tryz.prog.types.size-1,jb⟩
 unfold keyOf;rw[Tryz.underlying68];simp only[h1,h2,Value.cells,eE,if_true,hm];simp[Program.keyLits,Tryz.underlying68,Tryz.underlying3,axc,c3,ha,hb]
def kv(x:Int×Int):Value:=.agg #[.int .i64 x.1,.int .i64 x.2]
def eqP(x y:Int×Int):Bool:=x.1==y.1&&x.2==y.2
def VY(S:List (Int×Int))(x:Int×Int):Bool:=S.any λy=>eqP y x
def adG(S:List (Int×Int))(x y:Int×Int):VY (S++[x]) y=(VY S y||eqP x y):=by grind[VY]
def FB{P:Program}{e:TypeId}(he:P.underlying e=some .bool){v:Value}{z:DataW Unit×List MemPlace}{b:Bool}(h:plainElem P e v=some z)(hz:z.1=.lit (.bool b)):v=.bool b:=by unfold plainElem at h;grind
end ML
open ML
def Bd(w:World)(b:Nat)(S:List (Int×Int)):Prop:=
 ∃n D,n<=S.length/\w.ownsMap (H:=Unit) Tryz.prog 68 (plainElem Tryz.prog 4) b n D/\∀(x:Int×Int) (l:Lit),keyOf Tryz.prog 68 (kv x)=some l->D.atKey l (.lit (.bool false))=.lit (.bool (VY S x))
def Bd.made(w:World):Bd (w.alloc (.map #[] 0)) w.heap.size []:=
 ⟨0,.map [],jp,World.ownsMap_made _ _ _ _,λx l _=>by rfl⟩
def Bd.keep{w w':World}{b:Nat}{S:List (Int×Int)}(h:Bd w b S)(hb:w'.heap[b]?=w.heap[b]?):Bd w' b S:=by obtain⟨n,D,h1,⟨es,clock,h2,h3⟩,h4⟩:=h;exact⟨n,D,h1,⟨es,clock,hb.trans h2,h3⟩,h4⟩
def ML.aga(w:World):(zeroValue 4).run Tryz.prog w=.ok (.bool false) w:=by kernel_rfl
def Bd.look{w:World}{b:Nat}{S:List (Int×Int)}(h:Bd w b S)(x:Int×Int)(he:(Lit.int .i64 x.1).wf=true)(hk:(Lit.int .i64 x.2).wf=true):
  (Instr.lookup 103 (.map (some b)) (kv x) false).run Tryz.prog w=.ok (.bool (VY S x)) w:=by
 obtain⟨n,D,h1,h2,h3⟩:=h
 obtain⟨l,hl⟩:=Qx x.1 x.2 he hk
 obtain⟨v,ps,hr,hv⟩:=h2.lookup keyed Tryz.underlying103 (aga w) (plainElem_bool Tryz.underlying4 false) hl
 unfold kv
 rw[hr,FB Tryz.underlying4 hv (h3 x l hl)]
def Bd.store{w:World}{b:Nat}{S:List (Int×Int)}(h:Bd w b S)(x:Int×Int)(he:(Lit.int .i64 x.1).wf=true)(hk:(Lit.int .i64 x.2).wf=true)(hS:S.length<=1000000):
  ∃w',(Instr.mapUpdate 103 (.map (some b)) (kv x) (.bool true)).run Tryz.prog w=.ok () w'/\Bd w' b (S++[x])/\w.grownBy w' (some b):=by
 obtain⟨n,D,h1,h2,h3⟩:=h
 obtain⟨l,hl⟩:=Qx x.1 x.2 he hk
 obtain⟨w',hr,ho,hg⟩:=h2.update keyed Tryz.underlying103 (by unfold maxLen;omega) hl (plainElem_bool Tryz.underlying4 true)
 refine⟨w',hr,⟨n+1,_,by grind,ho,λy l' hl'=>?_⟩,hg⟩
 rw[adG]
 by_cases e:l'=l
 .subst e
  have e2:=keyed.inj hl hl'
  have e3:eqP x y=true:=by grind[kv,eqP]
  rw[e3,Bool.or_true,Maps.atKey_put_same h2.isMap (keyed.key hl)]
 .rw[Maps.atKey_put_other e,h3 y l' hl']
  have e3:eqP x y=false:=by
   cases e4:eqP x y
   .rfl
   .exfalso;unfold eqP at e4;simp at e4;have:kv x=kv y:=by unfold kv;rw[e4.1,e4.2]
    have h5:keyOf Tryz.prog 68 (kv x)=some l:=hl;rw[this,hl']at h5;exact e (ff h5)
  rw[e3,Bool.or_false]
def Bf:List (Int×Int)->List B
 |[]=>[]
 |x::l=>.int .i64 x.1:: .int .i64 x.2::Bf l
def Zu(l:List (Int×Int))(x:Int×Int):Bf (l++[x])=Bf l++[.int .i64 x.1,.int .i64 x.2]:=by
 induction l with
 |nil=>rfl
 |cons y l ih=>simp[Bf,ih]
theorem Tj(l:List (Int×Int)):(Bf l).length=2*l.length:=by
 induction l with
 |nil=>rfl
 |cons y l ih=>grind[Bf]
theorem Tm{a b:Int}:eqI a b=(a==b):=by
 have hn:∀m n:Nat,Nat.beq m n=decide (m=n):=λm n=>by
  by_cases h:m=n
  .simp_all
  grind[Nat.eq_of_beq_eq_true]
 cases a with
 |ofNat m=>cases b with
  |ofNat n=>show Nat.beq m n=decide (Int.ofNat m=Int.ofNat n);grind
  |negSucc n=>rfl
 |negSucc m=>cases b with
  |ofNat n=>rfl
  |negSucc n=>show Nat.beq m n=decide (Int.negSucc m=Int.negSucc n);grind
def adH(l:List (Int×Int))(x:Int×Int):hasB (Bf l) x.1 x.2=VY l x:=by
 induction l with
 |nil=>rfl
 |cons y l ih=>
  grind[Bf,hasB,VY,Tm,eqP]
def Tn{n:Int}(h:IZ .i64 n=true):(Lit.int .i64 n).wf=true:=by
 have hr: -9223372036854775808<=n/\n<=9223372036854775807:=by
  cases n with
  |ofNat m=>have:=aD h;grind
  |negSucc m=>have:=aD h;omega
 simp only[Lit.wf,af,ga];have h1:IntKind.i64.min=-9223372036854775808:=by rfl
 simp_all
end Go.Proofs.Xe
end
