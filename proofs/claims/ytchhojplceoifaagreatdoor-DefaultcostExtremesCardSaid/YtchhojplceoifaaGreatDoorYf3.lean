import Derived.Test.YtchhojplceoifaaGreatDoorYf1
import Derived.Laws.AppendOwn
import Derived.Below
import Derived.Test.YtchhojplceoifaaGreatDoorProg
import Derived.Deep.QuietTactic
import Derived.Maps.OwnSet
import Derived.DeepKeys4
import Derived.MapViews
import Derived.Maps.Views
set_option linter.all false
noncomputable section
namespace Go.Proofs.Xe
open Go.RowKit Go.Proofs.Ins
inductive Tt(α:Type) where
 |leaf
 |node (l:Tt α) (v:Option α) (r:Tt α)
inductive Pth where
 |e
 |l (p:Pth)
 |r (p:Pth)
 |bad
def pathOf(d:Nat):Nat->Pth:=
 Nat.rec (motive:=λ_=>Nat->Pth) (λ_=>.bad) (λ_ ih k=>Bool.rec (motive:=λ_=>Pth) (Bool.rec (motive:=λ_=>Pth) (.r (ih (Nat.sub (Nat.div k 2) 1))) (.l (ih (Nat.div k 2))) (Nat.beq (Nat.mod k 2) 1)) .e (Nat.beq k 0)) d
def Dn{α:Type}(p:Pth):Tt α->Option α:=
 Pth.rec (motive:=λ_=>Tt α->Option α) (λt=>Tt.rec (motive:=λ_=>Option α) none (λ_ v _ _ _=>v) t) (λ_ ih t=>Tt.rec (motive:=λ_=>Option α) none (λl _ _ _ _=>ih l) t)
  (λ_ ih t=>Tt.rec (motive:=λ_=>Option α) none (λ_ _ r _ _=>ih r) t) (λ_=>none) p
def al6{α:Type}(x:Option α)(r:Tt α)(o:Option (Tt α)):Option (Tt α):=Option.rec (motive:=λ_=>Option (Tt α)) none (λl=>some (.node l x r)) o
def al7{α:Type}(x:Option α)(l:Tt α)(o:Option (Tt α)):Option (Tt α):=Option.rec (motive:=λ_=>Option (Tt α)) none (λr=>some (.node l x r)) o
def JB{α:Type}(v:Option α)(p:Pth):Tt α->Option (Tt α):=
 Pth.rec (motive:=λ_=>Tt α->Option (Tt α)) (λt=>Tt.rec (motive:=λ_=>Option (Tt α)) (some (.node .leaf v .leaf)) (λl _ r _ _=>some (.node l v r)) t)
  (λ_ ih t=>Tt.rec (motive:=λ_=>Option (Tt α)) (al6 none .leaf (ih .leaf)) (λl x r _ _=>al6 x r (ih l)) t)
  (λ_ ih t=>Tt.rec (motive:=λ_=>Option (Tt α)) (al7 none .leaf (ih .leaf)) (λl x r _ _=>al7 x l (ih r)) t) (λ_=>none) p
def Md{α:Type}(a b:Nat)(x y:α):(bif Nat.beq a b then x else y)=if a=b then x else y:=by simp
def KO(d k:Nat):pathOf (d+1) k=if k=0 then .e else if k%2=1 then .l (pathOf d (k/2))else .r (pathOf d (k/2-1)):=by rw[<-Md,<-Md];show Bool.rec (motive:=λ_=>Pth) _ _ _=_;show Bool.rec (motive:=λ_=>Pth) (Bool.rec (motive:=λ_=>Pth) (.r (pathOf d (k/2-1))) (.l (pathOf d (k/2))) (Nat.beq (k%2) 1)) .e (Nat.beq k 0)=_;cases Nat.beq k 0<;>cases Nat.beq (k%2) 1<;>rfl
def qW{α:Type}(p:Pth):Dn p (.leaf:Tt α)=none:=by cases p<;>rfl
def N8{α:Type}(v:Option α):∀(d k j:Nat) (t t':Tt α),JB v (pathOf d k) t=some t'->Dn (pathOf d j) t'=if j=k then v else Dn (pathOf d j) t
 |0,k,j,t,t',h=>by cases h
 |d+1,k,j,t,t',h=>by
  rw[KO]at h;rw[KO d j];by_cases hk:k=0
  .rw[ae hk]at h;subst hk;cases t with
   |leaf=>
    have h1:some (Tt.node .leaf v .leaf)=some t':=h
    cases h1
    by_cases hj:j=0
    .rw[ae hj,ae hj];rfl
    .rw[ab hj,ab hj,qW]
     split
     .exact qW _
     .exact qW _
   |node l x r=>
    have h1:some (Tt.node l v r)=some t':=h
    cases h1
    by_cases hj:j=0
    .rw[ae hj,ae hj];rfl
    .rw[ab hj,ab hj]
     split
     .rfl
     .rfl
  .rw[ab hk]at h;by_cases hm:k%2=1
   .rw[ae hm]at h;obtain⟨l,x,r,l',e1,e2,e3⟩:∃l x r l',JB v (pathOf d (k/2)) l=some l'/\t'=.node l' x r/\∀j,Dn j t=Dn j (.node l x r)\/(t=.leaf/\l=.leaf/\r=.leaf/\x=none):=by
     cases t with
     |leaf=>
      have h1:al6 none .leaf (JB v (pathOf d (k/2)) .leaf)=some t':=h
      cases hp:JB v (pathOf d (k/2)) .leaf with
      |none=>rw[hp]at h1;cases h1
      |some l'=>rw[hp]at h1;exact⟨.leaf,none,.leaf,l',hp,(eA h1).symm,λ_=>.inr ⟨rfl,rfl,rfl,rfl⟩⟩
     |node l x r=>
      have h1:al6 x r (JB v (pathOf d (k/2)) l)=some t':=h
      cases hp:JB v (pathOf d (k/2)) l with
      |none=>rw[hp]at h1;cases h1
      |some l'=>rw[hp]at h1;exact⟨l,x,r,l',hp,(eA h1).symm,λ_=>.inl rfl⟩
    have e4:∀p,Dn p t=Dn p (.node l x r):=λp=>by
     rcases e3 p with h|⟨rfl,rfl,rfl,rfl⟩
     .exact h
     .rw[qW];cases p<;>first|rfl|exact(qW _).symm
    rw[e4,e2];by_cases hj:j=0
    .rw[ae hj,ab jb];rfl
    .rw[ab hj];by_cases hjm:j%2=1
     .rw[ae hjm];show Dn (pathOf d (j/2)) l'=if j=k then v else Dn (pathOf d (j/2)) l;rw[N8 v d _ _ _ _ e1];grind
     .rw[ab hjm,ab jb];rfl
   .rw[ab hm]at h;obtain⟨l,x,r,r',e1,e2,e3⟩:∃l x r r',JB v (pathOf d (k/2-1)) r=some r'/\t'=.node l x r'/\∀j,Dn j t=Dn j (.node l x r)\/(t=.leaf/\l=.leaf/\r=.leaf/\x=none):=by
     cases t with
     |leaf=>
      have h1:al7 none .leaf (JB v (pathOf d (k/2-1)) .leaf)=some t':=h
      cases hp:JB v (pathOf d (k/2-1)) .leaf with
      |none=>rw[hp]at h1;cases h1
      |some r'=>rw[hp]at h1;exact⟨.leaf,none,.leaf,r',hp,(eA h1).symm,λ_=>.inr ⟨rfl,rfl,rfl,rfl⟩⟩
     |node l x r=>
      have h1:al7 x l (JB v (pathOf d (k/2-1)) r)=some t':=h
      cases hp:JB v (pathOf d (k/2-1)) r with
      |none=>rw[hp]at h1;cases h1
      |some r'=>rw[hp]at h1;exact⟨l,x,r,r',hp,(eA h1).symm,λ_=>.inl rfl⟩
    have e4:∀p,Dn p t=Dn p (.node l x r):=λp=>by
     rcases e3 p with h|⟨rfl,rfl,rfl,rfl⟩
     .exact h
     .rw[qW];cases p<;>first|rfl|exact(qW _).symm
    rw[e4,e2];by_cases hj:j=0
    .rw[ae hj,ab jb];rfl
    .rw[ab hj];by_cases hjm:j%2=1
     .rw[ae hjm,ab (by intro e;subst e;exact hm hjm)];rfl
     .rw[ab hjm];show Dn (pathOf d (j/2-1)) r'=if j=k then v else Dn (pathOf d (j/2-1)) r;rw[N8 v d _ _ _ _ e1];by_cases e:j=k
      .subst e;rw[ae rfl,ae rfl]
      .rw[ab jb,ab e]
inductive Tr(α:Type) where
 |fn (f:Nat->Option α)
 |tree (t:Tt α)
noncomputable section
def Tr.leaf{α:Type}:Tr α:=.tree .leaf
def Tr.get{α:Type}(t:Tr α)(k:Nat):Option α:=match t with|.fn f=>f k|.tree t=>Dn (pathOf 40 k) t
def Tr.set{α:Type}(t:Tr α)(k:Nat)(v:Option α):Tr α:=match t with
 |.fn f=>.fn λj=>if j=k then v else f j
 |.tree t=>match JB v (pathOf 40 k) t with|some t'=>.tree t'|none=>.fn λj=>if j=k then v else Dn (pathOf 40 j) t
def Tr.put{α:Type}(v:Option α)(_:Nat)(t:Tr α)(k:Nat):Option (Tr α):=some (t.set k v)
end
instance {α:Type}:CoeFun (Tr α) (λ_=>Nat->Option α):=⟨Tr.get⟩
theorem Tr.vg{α:Type}(t:Tr α)(k:Nat)(v:Option α)(j:Nat):(t.set k v).get j=if j=k then v else t.get j:=by
 cases t with
 |fn f=>rfl
 |tree t=>
  unfold Tr.set
  dsimp only
  cases h:JB v (pathOf 40 k) t with
  |none=>rfl
  |some t'=>exact N8 v 40 k j t t' h
def Tr.get_put{α:Type}(v:Option α)(d:Nat)(t t':Tr α)(k j:Nat)(h:Tr.put v d t k=some t'):t'.get j=if j=k then v else t.get j:=by grind[Tr.put,Tr.vg]
theorem Tr.N9{α:Type}(k:Nat):(Tr.leaf:Tr α).get k=none:=qW _
inductive Cap where
 |ex (k:Nat)
 |opn
 |any
 deriving DecidableEq
inductive B where
 |int (k:IntKind) (n:Int)
 |bool (b:Bool)
 |str (s:ByteArray)
 |nat (n:Nat)
 |ptr (b o:Nat)
 |UM
 |sl (b o n:Nat) (c:Cap)
 |aP
 |mp (b:Nat)
 |any
 deriving DecidableEq
inductive V where
 |c (x:B)
 |agg (l:List B)
 |fn (f:Nat) (caps:List B)
 |Oa
 |tnil
 |aZ (a r:V)
 |und
 deriving DecidableEq
abbrev jN(n:Nat):V:=.c (.int .i64 (.ofNat n))
structure Bk where
 cells:List B
 opn:Option (Nat×Nat)
structure St where
 h:Tr Bk
 aj:Nat
inductive O where
 |t (i:Nat)
 |k (v:V)
 deriving DecidableEq
inductive wS where
 |mov (x:O)
 |pick (c a b:O)
 |load (n:Nat) (agg:Bool) (x:O)
 |store (n:Nat) (a x:O)
 |Dp (off:Nat) (x:O)
 |field (off n:Nat) (agg:Bool) (x:O)
 |F7 (iC:Nat) (x i:O)
 |ext (i:Nat) (x:O)
 |bin (op:BinOp) (x y:O)
 |eqb (pos:Bool) (x y:O)
 |F8 (pos:Bool) (x y:O)
 |Io (pos:Bool) (x y:O)
 |nil (k:Nat) (pos:Bool) (x:O)
 |not (x:O)
 |conv (k:IntKind) (x:O)
 |build (zero:List B) (parts:List (Nat×Nat×O))
 |Q7 (f:Nat) (caps:List O)
 |len (x:O)
 |slice (iC:Nat) (x:O) (lo hi mx:Option O)
 |alloc (zero:List B)
 |box (x:O)
 |Lp (bytes:Nat) (zero:List B) (l c:O)
 |bsl (iC n:Nat) (zero:List B) (parts:List (Nat×Nat×O))
 |app (ty iC bytes:Nat) (s x:O)
 |call (g:O) (args:List O)
 |Q8 (x:O)
 |min2 (x y:O)
 |slen (x:O)
 |aeE (x i:O)
 |SC (x i:O)
 |aax (x:O)
 |Ob
 |KP
 |lookup (m k:O)
 |UN (m k v:O)
 |bad
 deriving DecidableEq
structure AO where
 dst:Option Nat
 g:Option (Nat×Bool)
 op:wS
 deriving DecidableEq
structure DO where
 i:Nat
 us:List Nat
 os:List Nat
 o:AO
inductive Dr where
 |fin (qs:List DO)
 |act (qs:List DO) (x:DO) (r:Dr)
inductive AC where
 |skip
 |ops (l:List AO)
 |drawn (d:Dr) (pt:List (List Nat)) (ds:List Nat)
 |seq (a b:AC)
 |cond (c:O) (a b:AC)
 |block (i:Nat) (a:AC)
 |loop (a:AC)
 |exit (i:Nat)
 |ret
 |bad
structure AF where
 n:Nat
 body:AC
 res:List (Nat×Option (Nat×Bool))
inductive AX where
 |normal
 |exit (i:Nat)
 |ret
 deriving DecidableEq
noncomputable section
def Bk.pl(k:Bk):Bool:=match k.opn with|some (0,_)=>false|_=>true
def Bk.rd(k:Bk):Bool:=match k.opn with|some (0,t)=>Nat.beq t 1|_=>true
def V.cells:V->Option (List B)
 |.c x=>some [x]
 |.agg l=>some l
 |_=>none
def Tr.ah(tm:Tr V)(i:Nat):V:=match tm.get i with|some v=>v|none=>.und
def O.ev(tm:Tr V):O->V
 |.t i=>tm.ah i
 |.k v=>v
def JC:IntKind->Int->Bool
 |.i64,.ofNat m=>Nat.ble m 9223372036854775807
 |.i64,.negSucc m=>Nat.ble m 9223372036854775807
 |.u8,.ofNat m=>Nat.ble m 255
 |_,_=>false
def fN{α:Sort _}(m:Nat)(f:Nat->α):α:=match m with|0=>f 0|n+1=>f (n+1)
theorem uw{α:Sort _}(m:Nat)(f:Nat->α):fN m f=f m:=by cases m<;>rfl
def fI{α:Sort _}(m:Int)(f:Int->α):α:=match m with|.ofNat n=>fN n λn=>f (.ofNat n)|.negSucc n=>fN n λn=>f (.negSucc n)
theorem apV{α:Sort _}(m:Int)(f:Int->α):fI m f=f m:=by
 cases m with
 |ofNat n=>exact uw n λn=>f (.ofNat n)
 |negSucc n=>exact uw n λn=>f (.negSucc n)
def mkI(k:IntKind)(n:Int):Option V:=fI n λn=>bif JC k n then some (.c (.int k n))else none
def aAZ:Bool->V->Bool
 |true,.agg _=>true
 |false,.c _=>true
 |_,_=>false
def B.kn:B->Bool
 |.any=>false
 |_=>true
def zW(l:List B)(o n:Nat)(agg:Bool):Option V:=
 match agg with
 |true=>let r:=(l.drop o).take n
  bif Nat.beq r.length n&&r.all B.kn then some (.agg r)else none
 |false=>match l.drop o with|x::_=>bif x.kn then some (.c x)else none|[]=>none
def yS:List B->Nat->List B->Option (List B)
 |l,0,vs=>bif Nat.ble vs.length l.length then some (vs++l.drop vs.length)else none
 |[],_+1,_=>none
 |x::l,o+1,vs=>match yS l o vs with|some r=>some (x::r)|none=>none
def aay(op:BinOp)(k:IntKind)(a b:Int):Option V:=
 match op with
 |.shr=>bif decide (b<0)then none else some (.c (.int k (a.fdiv (2^(min b.toNat k.bits)))))
 |.shl=>bif decide (b<0)then none else some (.c (.int k (k.wrap (a*2^(min b.toNat k.bits)))))
 |_=>none
def BI(op:BinOp)(k:IntKind)(a b:Int):Option V:=
 match op with
 |.add=>some (.c (.int k (k.wrap (a+b))))
 |.sub=>some (.c (.int k (k.wrap (a-b))))
 |.mul=>some (.c (.int k (k.wrap (a*b))))
 |.quo=>bif decide (b=0)then none else some (.c (.int k (k.wrap (a.tdiv b))))
 |.rem=>bif decide (b=0)then none else some (.c (.int k (a.tmod b)))
 |.and=>some (.c (.int k (k.wrap ((BitVec.ofInt k.bits a&&&BitVec.ofInt k.bits b).toNat))))
 |.or=>some (.c (.int k (k.wrap ((BitVec.ofInt k.bits a|||BitVec.ofInt k.bits b).toNat))))
 |op=>aay op k a b
def Q9(op:BinOp)(k:IntKind)(a b:Int):Option V:=
 match op with
 |.add=>match k with|.i64=>mkI .i64 (a+b)|k=>BI .add k a b
 |.sub=>match k with|.i64=>mkI .i64 (a-b)|k=>BI .sub k a b
 |.mul=>match k with|.i64=>mkI .i64 (a*b)|k=>BI .mul k a b
 |.eql=>some (.c (.bool (decide (a=b))))
 |.neq=>some (.c (.bool (!decide (a=b))))
 |.lss=>some (.c (.bool (decide (a<b))))
 |.leq=>some (.c (.bool (decide (a<=b))))
 |.gtr=>some (.c (.bool (decide (b<a))))
 |.geq=>some (.c (.bool (decide (b<=a))))
 |op=>BI op k a b
def oL(op:BinOp):V->V->Option V
 |.c (.int j a),.c (.int k b)=>bif decide (j=k)then Q9 op j a b else aay op j a b
 |.c (.str a),.c (.str b)=>match op with|.eql=>some (.c (.bool (decide (a=b))))|.neq=>some (.c (.bool (!decide (a=b))))|_=>none
 |.c (.nat a),.c (.nat b)=>match op with|.eql=>some (.c (.bool (Nat.beq a b)))|.neq=>some (.c (.bool (!Nat.beq a b)))|_=>none
 |.c (.nat a),.c (.str b)=>bif Nat.beq b.size 0 then(match op with|.eql=>some (.c (.bool (Nat.beq a 0)))|.neq=>some (.c (.bool (!Nat.beq a 0)))|_=>none)else none
 |_,_=>none
def B.num:B->Option Nat
 |.nat n=>some n
 |.str s=>bif Nat.beq s.size 0 then some 0 else none
 |_=>none
def eqS(x y:B):Option Bool:=match x,y with
 |.str a,.str b=>some (decide (a=b))
 |x,y=>match x.num,y.num with
  |some m,some n=>some (Nat.beq m n)
  |_,_=>none
def eqB:List B->List B->Option Bool
 |[.bool a,b,c],[.bool d,e,f]=>match eqS b e,eqS c f with|some x,some y=>some ((a==d)&&(x&&y))|_,_=>none
 |_,_=>none
def Dq:List B->List (Nat×Nat×V)->Option (List B)
 |z,[]=>some z
 |z,(o,n,v)::r=>match v.cells with
  |some l=>bif Nat.beq l.length n then match yS z o l with|some z=>Dq z r|none=>none else none
  |none=>none
def KQ:V->Option Nat
 |.c (.int .i64 (.ofNat n))=>some n
 |_=>none
def St.new(σ:St)(k:Bk):Option (Nat×St):=
 match Tr.put (some k) 40 σ.h σ.aj with
 |some h=>fN (σ.aj+1) λm=>some (σ.aj,⟨h,m⟩)
 |none=>none
def rep(z:List B):Nat->List B
 |0=>[]
 |n+1=>z++rep z n
def Xm(b:Option O)(tm:Tr V)(d:Nat):Option Nat:=
 match b with
 |none=>some d
 |some x=>KQ (x.ev tm)
def aaz(tm:Tr V):List O->Option (List B)
 |[]=>some []
 |x::r=>match x.ev tm,aaz tm r with|.c b,some l=>some (b::l)|_,_=>none
def apW(c a b:O)(tm:Tr V):Option V:=
 match c.ev tm with|.c (.bool t)=>some (bif t then a.ev tm else b.ev tm)|_=>none
def acE(n:Nat)(g:Bool)(x:O)(tm:Tr V)(σ:St):Option V:=
 match x.ev tm with
  |.c (.ptr b o)=>match σ.h.get b with|some k=>bif k.rd then zW k.cells o n g else none|none=>none
  |_=>none
def eqI:Int->Int->Bool
 |.ofNat m,.ofNat n=>Nat.beq m n
 |.negSucc m,.negSucc n=>Nat.beq m n
 |_,_=>false
def hasB:List B->Int->Int->Bool
 |.int _ e:: .int _ k::r,a,b=>bif eqI e a&&eqI k b then true else hasB r a b
 |_,_,_=>false
def acF(m k:O)(tm:Tr V)(σ:St):Option V:=
 match m.ev tm,k.ev tm with
  |.c (.mp b),.agg [.int .i64 e,.int .i64 j]=>match σ.h.get b with
   |some ⟨c,some (0,0)⟩=>bif JC .i64 e&&JC .i64 j then some (.c (.bool (hasB c e j)))else none
   |_=>none
  |_,_=>none
def aaA(off:Nat)(x:O)(tm:Tr V):Option V:=
 match x.ev tm with|.c (.ptr b o)=>fN (o+off) λm=>some (.c (.ptr b m))|_=>none
def ahi(off n:Nat)(g:Bool)(x:O)(tm:Tr V):Option V:=
 match x.ev tm with|.agg l=>zW l off n g|_=>none
def aaB(iC:Nat)(x i:O)(tm:Tr V):Option V:=
 match x.ev tm,KQ (i.ev tm)with
  |.c (.sl b o len _),some j=>bif Nat.blt j len then fN (o+j*iC) λm=>some (.c (.ptr b m))else none
  |_,_=>none
def ahj(i:Nat)(x:O)(tm:Tr V):Option V:=
 match x.ev tm,i with
  |.aZ a _,0=>some a
  |.aZ _ (.aZ a _),1=>some a
  |.aZ _ (.aZ _ (.aZ a _)),2=>some a
  |_,_=>none
def avr(p:Bool)(x y:O)(tm:Tr V):Option V:=
 match x.ev tm,y.ev tm with
  |.c (.bool a),.c (.bool b)=>some (.c (.bool (p==(a==b))))
  |_,_=>none
def eqL:List B->List B->Option Bool
 |[.int .i64 a,.int .i64 b],[.int .i64 c,.int .i64 d]=>some (decide (a=c)&&decide (b=d))
 |_,_=>none
def ahk(p:Bool)(x y:O)(tm:Tr V):Option V:=
 match x.ev tm,y.ev tm with
  |.agg l,.agg r=>match eqL l r with|some b=>some (.c (.bool (p==b)))|none=>none
  |_,_=>none
def ahl(p:Bool)(x y:O)(tm:Tr V):Option V:=
 match x.ev tm,y.ev tm with
  |.agg l,.agg r=>match eqB l r with|some b=>some (.c (.bool (p==b)))|none=>none
  |_,_=>none
def avs(k:Nat)(p:Bool)(x:O)(tm:Tr V):Option V:=
 match k,x.ev tm with
  |0,.c (.sl ..)=>some (.c (.bool (!p)))
  |0,.c .aP=>some (.c (.bool p))
  |1,.c (.ptr ..)=>some (.c (.bool (!p)))
  |1,.c .UM=>some (.c (.bool p))
  |2,.fn ..=>some (.c (.bool (!p)))
  |2,.Oa=>some (.c (.bool p))
  |_,_=>none
def avt(x:O)(tm:Tr V):Option V:=
 match x.ev tm with|.c (.bool b)=>some (.c (.bool !b))|_=>none
def apX(k:IntKind)(x:O)(tm:Tr V):Option V:=
 match x.ev tm with|.c (.int _ n)=>bif JC k n then some (.c (.int k n))else some (.c (.int k (k.wrap n)))|_=>none
def ahm(z:List B)(ps:List (Nat×Nat×O))(tm:Tr V):Option V:=
 match Dq z (ps.map λp=>(p.1,p.2.1,p.2.2.ev tm))with|some l=>some (.agg l)|none=>none
def apY(f:Nat)(cs:List O)(tm:Tr V):Option V:=
 match aaz tm cs with|some l=>some (.fn f l)|none=>none
def qlen(x:O)(tm:Tr V):Option V:=
 match x.ev tm with|.c (.sl _ _ n _)=>some (jN n)|.c .aP=>some (jN 0)|_=>none
def apZ(x:O)(tm:Tr V):Option V:=match x.ev tm with|.c (.str s)=>fN s.size λn=>some (jN n)|_=>none
def ap0(x i:O)(tm:Tr V):Option V:=
 match x.ev tm,KQ (i.ev tm)with|.c (.str s),some j=>(match s.data.toList[j]? with|some b=>fN b.toNat λn=>some (.c (.int .u8 (.ofNat n)))|none=>none)|_,_=>none
def ahn(x i:O)(tm:Tr V):Option V:=
 match x.ev tm,KQ (i.ev tm)with|.c (.str s),some j=>bif Nat.ble j s.size then some (.c (.str ⟨⟨s.data.toList.drop j⟩⟩))else none|_,_=>none
def byL:List B->Option (List UInt8)
 |[]=>some []
 |.int .u8 (.ofNat n)::r=>match byL r with|some l=>some (UInt8.ofNat n::l)|none=>none
 |_=>none
def ap1(x:O)(tm:Tr V)(σ:St):Option V:=
 match x.ev tm with
  |.c (.sl b o n (.ex _))=>(match σ.h.get b with
   |some k=>bif k.rd&&Nat.ble (o+n) k.cells.length then(match byL ((k.cells.drop o).take n)with|some l=>some (.c (.str ⟨⟨l⟩⟩))|none=>none)else none
   |none=>none)
  |_=>none
def Oc(iC:Nat)(x:O)(lo hi mx:Option O)(tm:Tr V):Option V:=
 match x.ev tm with
  |.c (.sl b o n c)=>
   match Xm lo tm 0,Xm hi tm n with
   |some l,some h=>bif Nat.ble l h&&Nat.ble h n then
     match mx with
     |none=>(match c with
      |.ex k=>bif Nat.blt l k then fN (o+l*iC) λm=>fN (h-l) λj=>fN (k-l) λq=>some (.c (.sl b m j (.ex q)))else some (.c (.sl b o 0 .any))
      |.opn=>bif Nat.beq l 0 then some (.c (.sl b o h .opn))else bif Nat.blt l n then fN (o+l*iC) λm=>fN (h-l) λj=>some (.c (.sl b m j .any))else some (.c (.sl b o 0 .any))
      |.any=>bif Nat.blt l n then fN (o+l*iC) λm=>fN (h-l) λj=>some (.c (.sl b m j .any))else some (.c (.sl b o 0 .any)))
     |some y=>match KQ (y.ev tm)with
      |some q=>bif Nat.ble h q&&Nat.ble q n then bif Nat.beq l 0 then some (.c (.sl b o h (bif Nat.beq n 0 then .any else .ex q)))else none else none
      |none=>none
    else none
   |_,_=>none
  |.c .aP=>match Xm lo tm 0,Xm hi tm 0 with
   |some 0,some 0=>(match mx with|none=>some (.c .aP)|some y=>match KQ (y.ev tm)with|some 0=>some (.c .aP)|_=>none)
   |_,_=>none
  |_=>none
def ap2(x:O)(tm:Tr V):Option V:=
 match x.ev tm with|.c (.ptr b o)=>some (.c (.ptr b o))|.fn f l=>some (.fn f l)|_=>none
def ap3(x y:O)(tm:Tr V):Option V:=
 match x.ev tm,y.ev tm with
  |.c (.int j a),.c (.int k b)=>bif decide (j=k)then(match decide (b<a)with|true=>some (.c (.int k b))|false=>some (.c (.int j a)))else none
  |_,_=>none
def dw(op:wS)(tm:Tr V)(σ:St):Option V:=
 match op with
 |.mov x=>some (x.ev tm)
 |.pick c a b=>apW c a b tm
 |.load n g x=>acE n g x tm σ
 |.lookup m k=>acF m k tm σ
 |.Dp off x=>aaA off x tm
 |.field off n g x=>ahi off n g x tm
 |.F7 iC x i=>aaB iC x i tm
 |.ext i x=>ahj i x tm
 |.bin op x y=>oL op (x.ev tm) (y.ev tm)
 |.eqb p x y=>avr p x y tm
 |.F8 p x y=>ahl p x y tm
 |.Io p x y=>ahk p x y tm
 |.nil k p x=>avs k p x tm
 |.not x=>avt x tm
 |.conv k x=>apX k x tm
 |.build z ps=>ahm z ps tm
 |.Q7 f cs=>apY f cs tm
 |.len x=>qlen x tm
 |.slice iC x lo hi mx=>Oc iC x lo hi mx tm
 |.Q8 x=>ap2 x tm
 |.min2 x y=>ap3 x y tm
 |.slen x=>apZ x tm
 |.aeE x i=>ap0 x i tm
 |.SC x i=>ahn x i tm
 |.aax x=>ap1 x tm σ
 |_=>none
def oC(op:wS)(tm:Tr V):Option (List B×(Nat->V)):=
 match op with
 |.alloc z=>some (z,λb=>.c (.ptr b 0))
 |.box x=>match(x.ev tm).cells with|some l=>some (l,λb=>.c (.ptr b 0))|none=>none
 |.Lp bytes z l c=>match KQ (l.ev tm),KQ (c.ev tm)with
  |some n,some m=>bif Nat.ble n m&&(Nat.ble (bytes*m) 281474976710656&&Nat.ble m 1073741824)then some (rep z m,λb=>.c (.sl b 0 n (.ex m)))else none
  |_,_=>none
 |.bsl iC n z ps=>bif Nat.ble (n*iC) 16777216&&Nat.ble n 16777216 then match Dq (rep z n) (ps.map λp=>(p.1,p.2.1,p.2.2.ev tm))with
  |some l=>some (l,λb=>.c (.sl b 0 n (.ex n)))
  |none=>none else none
 |_=>none
def uj(ty iC bytes:Nat)(s:V)(m:Nat)(news:List B)(σ:St):Option (V×St):=
 match s with
 |.c .aP=>bif Nat.beq m 0 then some (.c .aP,σ)else bif Nat.blt 0 iC&&(Nat.ble (m*bytes) 140737488355328&&Nat.ble m 1073741824)then
   match σ.new ⟨news,some (iC,ty)⟩with|some (b,σ)=>some (.c (.sl b 0 m .opn),σ)|none=>none else none
 |.c (.sl b o n .opn)=>bif Nat.beq m 0 then some (.c (.sl b o n .opn),σ)else match σ.h.get b with
  |some ⟨cells,some (e,t)⟩=>bif Nat.blt 0 e&&Nat.beq o 0&&(Nat.beq e iC&&(Nat.beq t ty&&(Nat.ble ((n+m)*bytes) 140737488355328&&(Nat.ble (n+m) 1073741824&&Nat.ble (n*iC) cells.length))))then
    match Tr.put none 40 σ.h b with
    |some h=>match(⟨h,σ.aj⟩:St).new ⟨cells.take (n*iC)++news,some (iC,ty)⟩with
     |some (b',σ)=>fN (n+m) λq=>some (.c (.sl b' 0 q .opn),σ)
     |none=>none
    |none=>none else none
  |_=>none
 |.c (.sl b o n (.ex k))=>bif Nat.beq m 0 then bif Nat.ble n k then some (.c (.sl b o n (.ex k)),σ)else none else match σ.h.get b with
  |some bk=>bif (bk.rd&&(Nat.blt 0 iC&&((bk.cells.drop o).take (n*iC)).all B.kn))&&Nat.blt k (n+m)&&(Nat.ble ((n+m)*bytes) 140737488355328&&(Nat.ble (n+m) 1073741824&&Nat.ble (o+n*iC) bk.cells.length))then
    match σ.new ⟨(bk.cells.drop o).take (n*iC)++news,some (iC,ty)⟩with
    |some (b',σ)=>fN (n+m) λq=>some (.c (.sl b' 0 q .opn),σ)
    |none=>none
   else bif bk.pl&&Nat.beq o 0&&Nat.ble (n+m) k then(match yS bk.cells (n*iC) news with
    |some l=>(match Tr.put (some ⟨l,bk.opn⟩) 40 σ.h b with
     |some h=>fN (n+m) λq=>some (.c (.sl b 0 q (.ex k)),⟨h,σ.aj⟩)
     |none=>none)
    |none=>none)else none
  |none=>none
 |.c (.sl b o n .any)=>bif Nat.beq m 0 then some (.c (.sl b o n .any),σ)else none
 |_=>none
def vM(op:wS)(tm:Tr V)(σ:St):Option (V×St):=
 match op with
 |.store n a x=>match a.ev tm,(x.ev tm).cells with
  |.c (.ptr b o),some vs=>bif Nat.beq vs.length n then match σ.h.get b with
   |some k=>match bif k.pl then yS k.cells o vs else none with
    |some l=>match Tr.put (some ⟨l,k.opn⟩) 40 σ.h b with|some h=>some (.und,⟨h,σ.aj⟩)|none=>none
    |none=>none
   |none=>none else none
  |_,_=>none
 |.app ty iC bytes s x=>match x.ev tm with
  |.c .aP=>uj ty iC bytes (s.ev tm) 0 [] σ
  |.c (.sl b o m _)=>bif Nat.beq m 0 then uj ty iC bytes (s.ev tm) 0 [] σ else match σ.h.get b with
   |some k=>let l:=(k.cells.drop o).take (m*iC)
    bif k.rd&&(Nat.beq l.length (m*iC)&&l.all B.kn)then uj ty iC bytes (s.ev tm) m l σ else none
   |none=>none
  |_=>none
 |.Ob=>some (.und,σ)
 |.KP=>match σ.new ⟨[],some (0,0)⟩with|some (b,σ)=>some (.c (.mp b),σ)|none=>none
 |.UN m k x=>match m.ev tm,k.ev tm,x.ev tm with
  |.c (.mp b),.agg [.int .i64 e,.int .i64 j],.c (.bool true)=>match σ.h.get b with
   |some ⟨c,some (0,0)⟩=>bif JC .i64 e&&(JC .i64 j&&Nat.ble c.length 1000)then
     match Tr.put (some ⟨c++[.int .i64 e,.int .i64 j],some (0,0)⟩) 40 σ.h b with|some h=>some (.und,⟨h,σ.aj⟩)|none=>none
    else none
   |_=>none
  |_,_,_=>none
 |_=>none
def acG(op:wS)(tm:Tr V):Option (Nat×List V):=
 match op with
 |.call g args=>match g.ev tm with
  |.fn f caps=>some (f,args.map (·.ev tm)++caps.map .c)
  |_=>none
 |_=>none
inductive Kd where|q|n|a|c
def wS.kind:wS->Kd
 |.alloc ..|.box ..|.Lp ..|.bsl ..=>.n
 |.store ..|.app ..|.Ob|.KP|.UN ..=>.a
 |.call ..=>.c
 |_=>.q
def JD(tm:Tr V)(d:Option Nat)(v:V):Option (Tr V):=
 match d with
 |none=>some tm
 |some d=>Tr.put (some v) 40 tm d
def qw(cl:Nat->List V->St->Option (V×St))(op:wS)(tm:Tr V)(σ:St):Option (V×St):=
 match op.kind with
 |.q=>match dw op tm σ with|some v=>some (v,σ)|none=>none
 |.n=>match oC op tm with
  |some (l,v)=>match σ.new ⟨l,none⟩with|some (b,σ)=>some (v b,σ)|none=>none
  |none=>none
 |.a=>vM op tm σ
 |.c=>match acG op tm with|some (f,args)=>cl f args σ|none=>none
def gate(g:Option (Nat×Bool))(tm:Tr V):Option Bool:=
 match g with
 |none=>some true
 |some (t,b)=>match tm.ah t with
  |.c (.bool c)=>some (c==b)
  |.tnil=>some false
  |_=>none
def stepG(cl:Nat->List V->St->Option (V×St))(o:AO)(tm:Tr V)(σ:St):Option (V×St):=
 match gate o.g tm with
 |some true=>qw cl o.op tm σ
 |some false=>some (.tnil,σ)
 |none=>none
def uz(cl:Nat->List V->St->Option (V×St)):List AO->Tr V->St->Option (Tr V×St)
 |[],tm,σ=>some (tm,σ)
 |o::r,tm,σ=>match stepG cl o tm σ with
  |some (v,σ)=>match JD tm o.dst v with|some tm=>uz cl r tm σ|none=>none
  |none=>none
def wS.acts(o:wS):Bool:=match o.kind with|.a|.c=>true|_=>false
def wS.looks:wS->Bool
 |.load ..|.lookup ..|.aax ..=>true
 |_=>false
structure iW where
 i:Nat
 o:AO
 tm:Tr V
 v:V
 gt:Bool
 nm:Option Nat
structure Rs where
 i:Nat
 d:Option Nat
 v:V
def eqC:Cap->Cap->Bool
 |.ex k,.ex j=>Nat.beq k j
 |.opn,.opn=>true
 |.any,.any=>true
 |_,_=>false
def aeF:B->B->Bool
 |.int j m,.int k n=>decide (j=k)&&eqI m n
 |.bool a,.bool b=>a==b
 |.str m,.str n=>decide (m=n)
 |.nat m,.nat n=>Nat.beq m n
 |.ptr b o,.ptr c p=>Nat.beq b c&&Nat.beq o p
 |.UM,.UM=>true
 |.sl b o n c,.sl b' o' n' c'=>Nat.beq b b'&&(Nat.beq o o'&&(Nat.beq n n'&&eqC c c'))
 |.aP,.aP=>true
 |.mp b,.mp c=>Nat.beq b c
 |_,_=>false
def Oe:List B->List B->Bool
 |[],[]=>true
 |x::l,y::r=>aeF x y&&Oe l r
 |_,_=>false
def eqV:V->V->Bool
 |.c x,.c y=>aeF x y
 |.agg l,.agg r=>Oe l r
 |.fn f l,.fn g r=>Nat.beq f g&&Oe l r
 |.Oa,.Oa=>true
 |.tnil,.tnil=>true
 |.aZ a r,.aZ b s=>eqV a b&&eqV r s
 |_,_=>false
theorem aq3{a b:Cap}(h:eqC a b=true):a=b:=by cases a<;>cases b<;>first|rfl|cases h|(rw[aw h])
theorem aq4{a b:Int}(h:eqI a b=true):a=b:=by cases a<;>cases b<;>first|cases h|(rw[aw h])
def acH{a b:B}(h:aeF a b=true):a=b:=by
 cases a<;>cases b<;>simp only[aeF,af,fi,de,beq_iff_eq]at h
 .grind[aq4]
 .rw[h]
 .rw[h]
 .simp_all
 .simp_all
 .rfl
 .grind[Nat.eq_of_beq_eq_true,aq3]
 .rfl
 simp_all
theorem Me:∀{l r:List B},Oe l r=true->l=r
 |[],[],_=>rfl
 |_::_,_::_,h=>by simp only[Oe,af]at h;rw[acH h.1,Me h.2]
 |[],_::_,h=>by cases h
 |_::_,[],h=>by cases h
theorem aaC:∀{a b:V},eqV a b=true->a=b
 |.c _,.c _,h=>by rw[acH h]
 |.agg _,.agg _,h=>by rw[Me h]
 |.fn _ _,.fn _ _,h=>by grind[eqV,Nat.eq_of_beq_eq_true,Me]
 |.Oa,.Oa,_=>rfl
 |.tnil,.tnil,_=>rfl
 |.aZ _ _,.aZ _ _,h=>by simp only[eqV,af]at h;rw[aaC h.1,aaC h.2]
def again(σ:St)(p:iW):Bool:=
 bif p.gt then(match p.o.op.kind with
 |.q=>bif p.o.op.looks then(match dw p.o.op p.tm σ with|some u=>eqV u p.v|none=>false)else true
 |.n=>(match oC p.o.op p.tm,p.nm with
  |some (l,_),some b=>(match σ.h.get b with|some ⟨c,none⟩=>Oe c l|_=>false)
  |_,_=>false)
 |_=>false)else true
def JE(bV:Tr V)(res:List Rs):List Nat->Option (Tr V)
 |[]=>some bV
 |u::us=>match JE bV res us,res.find? (λr=>Nat.beq r.i u)with
  |some tm,some r=>JD tm r.d r.v
  |_,_=>none
def F9(dI tm:Tr V):List Nat->Option (Tr V)
 |[]=>some tm
 |t::os=>match F9 dI tm os with|some tm=>JD tm (some t) (dI.ah t)|none=>none
def Og(dI bV:Tr V)(res:List Rs)(us os:List Nat):Option (Tr V):=match JE bV res us with|some tm=>F9 dI tm os|none=>none
def yU(dI bV:Tr V):List DO->St->List Rs->List iW->Option (St×List Rs×List iW)
 |[],σ,res,pd=>some (σ,res,pd)
 |x::l,σ,res,pd=>match Og dI bV res x.us x.os with
  |some tm=>(match gate x.o.g tm with
   |some true=>(match x.o.op.kind with
    |.q=>(match dw x.o.op tm σ with
     |some v=>yU dI bV l σ (⟨x.i,x.o.dst,v⟩::res) (⟨x.i,x.o,tm,v,true,none⟩::pd)
     |none=>none)
    |.n=>(match oC x.o.op tm with
     |some (c,vf)=>(match σ.new ⟨c,none⟩with
      |some (b,σ)=>yU dI bV l σ (⟨x.i,x.o.dst,vf b⟩::res) (⟨x.i,x.o,tm,vf b,true,some b⟩::pd)
      |none=>none)
     |none=>none)
    |_=>none)
   |some false=>(match x.o.op.kind with
    |.q|.n=>yU dI bV l σ (⟨x.i,x.o.dst,.tnil⟩::res) (⟨x.i,x.o,tm,.tnil,false,none⟩::pd)
    |_=>none)
   |none=>none)
  |none=>none
def Lr(bV:Tr V):List Rs->Option (Tr V)
 |[]=>some bV
 |r::l=>match Lr bV l with|some tm=>JD tm r.d r.v|none=>none
def BJ(tm:Tr V):List Nat->Option (Tr V)
 |[]=>some tm
 |d::l=>match BJ tm l with|some t=>Tr.put none 40 t d|none=>none
def Dt(cl:Nat->List V->St->Option (V×St))(pt:List (List Nat))(dI bV:Tr V):Dr->St->List Rs->List iW->Option (Tr V×St)
 |.fin qs,σ,res,pd=>(match yU dI bV qs σ res pd with
  |some (σ,res,pd)=>bif pd.all (again σ)then(match Lr bV res with|some tm=>some (tm,σ)|none=>none)else none
  |none=>none)
 |.act qs x r,σ,res,pd=>(match yU dI bV qs σ res pd with
  |some (σ,res,pd)=>bif pd.all (again σ)then(match Og dI bV res x.us x.os with
   |some tm=>(match stepG cl x.o tm σ with
    |some (v,σ')=>Dt cl pt dI bV r σ' (⟨x.i,x.o.dst,v⟩::res) (pd.filter λp=>!((pt.getD x.i []).contains p.i))
    |none=>none)
   |none=>none)else none
  |none=>none)
def Ip:List V->Nat->Tr V->Option (Tr V)
 |[],_,t=>some t
 |v::r,i,t=>match JD t (some i) v with|some t=>Ip r (i+1) t|none=>none
def qF(tm:Tr V)(σ:St):List (Nat×Option (Nat×Bool))->Option V
 |[]=>some .tnil
 |(t,none)::r=>match tm.get t,qF tm σ r with|some v,some w=>some (.aZ v w)|_,_=>none
 |(t,some (n,g))::r=>match dw (.load n g (.t t)) tm σ,qF tm σ r with|some v,some w=>some (.aZ v w)|_,_=>none
def result(tm:Tr V)(σ:St)(l:List (Nat×Option (Nat×Bool))):Option V:=
 match qF tm σ l with
 |some (.aZ v .tnil)=>some v
 |r=>r
structure Env where
 fns:Nat->Option AF
 Xn:Nat->List V->St->Option (V×St)
def Xo(r:Option (Tr V×St)):Option (AX×Tr V×St):=match r with|some (tm,σ)=>some (.normal,tm,σ)|none=>none
def xDr(cl:Nat->List V->St->Option (V×St))(d:Dr)(pt:List (List Nat))(ds:List Nat)(tm:Tr V)(σ:St):Option (AX×Tr V×St):=
 match BJ tm ds with
 |some bV=>Xo (Dt cl pt tm bV d σ [] [])
 |none=>none
def al8(k:Tr V->St->Option (AX×Tr V×St))(r:Option (AX×Tr V×St)):Option (AX×Tr V×St):=
 match r with
 |some (.normal,tm,σ)=>k tm σ
 |r=>r
def acI(k:AC->Option (AX×Tr V×St))(v:V)(a b:AC):Option (AX×Tr V×St):=
 match v with
 |.c (.bool t)=>k (bif t then a else b)
 |_=>none
def aho(i:Nat)(r:Option (AX×Tr V×St)):Option (AX×Tr V×St):=
 match r with
 |some (.exit j,tm,σ)=>some (bif Nat.beq j i then .normal else .exit j,tm,σ)
 |r=>r
def aeG(res:List (Nat×Option (Nat×Bool)))(r:Option (AX×Tr V×St)):Option (V×St):=
 match r with
 |some (.normal,tm,σ)|some (.ret,tm,σ)=>(match result tm σ res with|some v=>some (v,σ)|none=>none)
 |_=>none
def Iq(Xn:Option (V×St))(fn:Option AF)(args:List V)(σ:St)(k:AC->Tr V->St->Option (AX×Tr V×St)):Option (V×St):=
 match Xn with
 |some v=>some v
 |none=>match fn with
  |some F=>match Ip args 0 .leaf with
   |some tm=>aeG F.res (k F.body tm σ)
   |none=>none
  |none=>none
mutual
def exec(E:Env):Nat->AC->Tr V->St->Option (AX×Tr V×St)
 |0,_,_,_=>none
 |n+1,c,tm,σ=>match c with
  |.skip=>some (.normal,tm,σ)
  |.ops l=>Xo (uz (jd E n) l tm σ)
  |.drawn d pt ds=>xDr (jd E n) d pt ds tm σ
  |.seq a b=>al8 (exec E n b) (exec E n a tm σ)
  |.cond x a b=>acI (λc=>exec E n c tm σ) (x.ev tm) a b
  |.block i a=>aho i (exec E n a tm σ)
  |.loop a=>al8 (exec E n (.loop a)) (exec E n a tm σ)
  |.exit i=>some (.exit i,tm,σ)
  |.ret=>some (.ret,tm,σ)
  |.bad=>none
def jd(E:Env):Nat->Nat->List V->St->Option (V×St)
 |0,_,_,_=>none
 |n+1,f,args,σ=>Iq (E.Xn f args σ) (E.fns f) args σ (exec E n)
end
end
class qG (P:Program):Prop where
 eq:P=Tryz.prog
instance:qG Tryz.prog:=⟨rfl⟩
namespace ML
def laidOut:laidOutB Tryz.prog=true:=by kernel_rfl
def row:(135:TypeId)<Tryz.prog.types.size:=cQ (by kernel_rfl)
def wide:(match Tryz.prog.underlying 135 with|some (.array _ _)|some (.struct _)=>true|_=>false)=true:=by kernel_rfl
set_option maxRecDepth 100000 in
def law:WideMaps.KeyLaw Tryz.prog 135:=deep_law_laid laidOut (m:=3) jb row (by kernel_rfl) wide
def keyed:Maps.Keyed Tryz.prog 135:=Maps.Keyed.of_law law
def SE(a b:Int)(ha:(Lit.int .i64 a).wf=true)(hb:(Lit.int .i64 b).wf=true):∃l,keyOf Tryz.prog 135 (.agg #[.int .i64 a,.int .i64 b])=some l:=by
 have h1:Tryz.prog.keyType 135=true:=by kernel_rfl
 have h2:(Value.agg #[.int .i64 a,.int .i64 b]).formed Tryz.prog 135=true:=by kernel_rfl
 have ay5:Tryz.prog.cellsOf 135=2:=by kernel_rfl
 have c3:Tryz.prog.cellsOf 3=1:=by kernel_rfl
 have hpos:0<Tryz.prog.types.size:=cQ (by kernel_rfl);obtain⟨m,hm⟩:∃m,Tryz.prog.types.size=m+1:=⟨Tryz.prog.types.size-1,jb⟩
 unfold keyOf;rw[Tryz.underlying135];simp only[h1,h2,Value.cells,cU,if_true,hm];simp[Program.keyLits,Tryz.underlying135,Tryz.underlying3,ay5,c3,ha,hb]
def kv(x:Int×Int):Value:=.agg #[.int .i64 x.1,.int .i64 x.2]
def eqP(x y:Int×Int):Bool:=x.1==y.1&&x.2==y.2
def Xp(S:List (Int×Int))(x:Int×Int):Bool:=S.any λy=>eqP y x
def aeH(S:List (Int×Int))(x y:Int×Int):Xp (S++[x]) y=(Xp S y||eqP x y):=by grind[Xp]
def Gw{P:Program}{e:TypeId}(he:P.underlying e=some .bool){v:Value}{z:DataW Unit×List MemPlace}{b:Bool}(h:plainElem P e v=some z)(hz:z.1=.lit (.bool b)):v=.bool b:=by unfold plainElem at h;grind
end ML
open ML
def CO(w:World)(b:Nat)(S:List (Int×Int)):Prop:=
 ∃n D,n<=S.length/\w.ownsMap (H:=Unit) Tryz.prog 135 (plainElem Tryz.prog 4) b n D/\∀(x:Int×Int) (l:Lit),keyOf Tryz.prog 135 (kv x)=some l->D.atKey l (.lit (.bool false))=.lit (.bool (Xp S x))
def CO.made(w:World):CO (w.alloc (.map #[] 0)) w.heap.size []:=
 ⟨0,.map [],jp,World.ownsMap_made _ _ _ _,λx l _=>by rfl⟩
def CO.keep{w w':World}{b:Nat}{S:List (Int×Int)}(h:CO w b S)(hb:w'.heap[b]?=w.heap[b]?):CO w' b S:=by obtain⟨n,D,h1,⟨es,clock,h2,h3⟩,h4⟩:=h;exact⟨n,D,h1,⟨es,clock,hb.trans h2,h3⟩,h4⟩
def ML.ahp(w:World):(zeroValue 4).run Tryz.prog w=.ok (.bool false) w:=by kernel_rfl
def CO.look{w:World}{b:Nat}{S:List (Int×Int)}(h:CO w b S)(x:Int×Int)(he:(Lit.int .i64 x.1).wf=true)(hk:(Lit.int .i64 x.2).wf=true):
  (Instr.lookup 138 (.map (some b)) (kv x) false).run Tryz.prog w=.ok (.bool (Xp S x)) w:=by
 obtain⟨n,D,h1,h2,h3⟩:=h
 obtain⟨l,hl⟩:=SE x.1 x.2 he hk
 obtain⟨v,ps,hr,hv⟩:=h2.lookup keyed Tryz.underlying138 (ahp w) (plainElem_bool Tryz.underlying4 false) hl
 unfold kv
 rw[hr,Gw Tryz.underlying4 hv (h3 x l hl)]
def CO.store{w:World}{b:Nat}{S:List (Int×Int)}(h:CO w b S)(x:Int×Int)(he:(Lit.int .i64 x.1).wf=true)(hk:(Lit.int .i64 x.2).wf=true)(hS:S.length<=1000000):
  ∃w',(Instr.mapUpdate 138 (.map (some b)) (kv x) (.bool true)).run Tryz.prog w=.ok () w'/\CO w' b (S++[x])/\w.grownBy w' (some b):=by
 obtain⟨n,D,h1,h2,h3⟩:=h
 obtain⟨l,hl⟩:=SE x.1 x.2 he hk
 obtain⟨w',hr,ho,hg⟩:=h2.update keyed Tryz.underlying138 (by unfold maxLen;omega) hl (plainElem_bool Tryz.underlying4 true)
 refine⟨w',hr,⟨n+1,_,by grind,ho,λy l' hl'=>?_⟩,hg⟩
 rw[aeH]
 by_cases e:l'=l
 .subst e
  have e2:=keyed.inj hl hl'
  have e3:eqP x y=true:=by grind[kv,eqP]
  rw[e3,Bool.or_true,Maps.atKey_put_same h2.isMap (keyed.key hl)]
 .rw[Maps.atKey_put_other e,h3 y l' hl']
  have e3:eqP x y=false:=by
   cases e4:eqP x y
   .rfl
   .exfalso;unfold eqP at e4;simp at e4;have:kv x=kv y:=by unfold kv;rw[e4.1,e4.2]
    have h5:keyOf Tryz.prog 135 (kv x)=some l:=hl;rw[this,hl']at h5;exact e (eA h5)
  rw[e3,Bool.or_false]
def CP:List (Int×Int)->List B
 |[]=>[]
 |x::l=>.int .i64 x.1:: .int .i64 x.2::CP l
def aaD(l:List (Int×Int))(x:Int×Int):CP (l++[x])=CP l++[.int .i64 x.1,.int .i64 x.2]:=by
 induction l with
 |nil=>rfl
 |cons y l ih=>simp[CP,ih]
theorem UO(l:List (Int×Int)):(CP l).length=2*l.length:=by
 induction l with
 |nil=>rfl
 |cons y l ih=>grind[CP]
theorem UQ{a b:Int}:eqI a b=(a==b):=by
 have hn:∀m n:Nat,Nat.beq m n=decide (m=n):=λm n=>by
  by_cases h:m=n
  .simp_all
  grind[Nat.eq_of_beq_eq_true]
 cases a with
 |ofNat m=>cases b with
  |ofNat n=>show Nat.beq m n=decide (Int.ofNat m=Int.ofNat n);grind
  |negSucc n=>rfl
 |negSucc m=>cases b with
  |ofNat n=>rfl
  |negSucc n=>show Nat.beq m n=decide (Int.negSucc m=Int.negSucc n);grind
def aeI(l:List (Int×Int))(x:Int×Int):hasB (CP l) x.1 x.2=Xp l x:=by
 induction l with
 |nil=>rfl
 |cons y l ih=>
  grind[CP,hasB,Xp,UQ,eqP]
def UR{n:Int}(h:JC .i64 n=true):(Lit.int .i64 n).wf=true:=by
 have hr: -9223372036854775808<=n/\n<=9223372036854775807:=by
  cases n with
  |ofNat m=>have:=aE h;grind
  |negSucc m=>have:=aE h;omega
 simp only[Lit.wf,af,fi];have h1:IntKind.i64.min=-9223372036854775808:=by rfl
 simp_all
end Go.Proofs.Xe
end
