import Derived.Test.YtodnohicahohdaaGreatDoorYh2
import Derived.Test.YtodnohicahohdaaGreatDoorCards
import Derived.Lay
import Derived.SevenTiedAt
import Derived.Laws.AppendOwn
import Derived.Below
import Derived.Maps.OwnSet
import Derived.DeepKeys4
import Derived.MapViews
import Derived.Maps.Views
set_option linter.all false
set_option maxRecDepth 100000
noncomputable section
namespace Go.Proofs.Ins
open Go Go.RowKit Go.ChangeShapes Go.WideShapes Go.ChangeAt Go.Proofs.YtodnohicahohdaaGreatDoor
def own':ownKnob Tryz.prog.godebug=none:=by kernel_rfl
def ad5:List (String×DataW Unit):=[("unicode/utf8.acceptRanges",Rows.laid_unicode_utf8_acceptRanges),("unicode/utf8.first",Rows.laid_unicode_utf8_first)]
section
variable {H:Type} {enc:TypeId×Value→H} {W:World}
def Bv{P:Program}{r:Reach}{b:Nat}{t e:TypeId}{v:Value}{d:DataW H}{p:List MemPlace}{sp:Nat->Bool}{held:Bool}(ht:P.underlying t=some (.slice e))(hv:Value.okWide P W r b t v)(h:DataW.Trod enc P W 0 sp held t v d p):
  ∃a n c f,v=.slice a n c/\DataW.trod enc P W 0 sp held f t [.slice a n c]=some (d,p):=by
 obtain⟨a,n,c,rfl⟩:=okWide_slice ht hv
 obtain⟨f,h⟩:=h
 exact⟨a,n,c,f,rfl,h⟩
def aiZ{f:FuncId}{fn:Func}{s:ChangeSpec}{args:Array Value}{ds:List (DataW H)}{before:List MemPlace}
  (hs:s.vars=[]) (hr:fn.resultTypes= #[4]) (hfn:s.fn H (ds++[])={ results:=[.lit (.bool true)],args:=ds })
  (ht:(fn.params.toList.all λt=>Tryz.prog.readableRec t&&decide (t<Tryz.prog.types.size))=true)
  (hW:DataW.Whole enc Tryz.prog fn.params.toList s.vars false W args.toList ds [] before)
  (hw:Calls Tryz.prog f args W λe w'=>e=.returned (.bool true)/\Below W.heap.size W w'):
  Calls Tryz.prog f args W λe W'=>∃v,e=.returned v/\s.post enc Tryz.prog fn false true false false W args v W':=by
 refine hw.mono λe W' ⟨he,hB⟩=>?_
 subst he
 have hW':=hW
 obtain⟨p,q,hA,hV,rfl,hfz,hnd⟩:=hW
 refine⟨_,rfl,ds,[],p++q,[],p,[],hW',?_,?_,?_,hB.frame _,λh=>by cases h⟩
 .rw[hfn,hr]
  exact trodAll_mk1 (shut_bool Tryz.underlying4 _)
 .rw[hfn]
  exact Ht laidOut' hB ht hA (λx hx=>hW'.lt x (ic _ hx))
 .rw[hfn,hs]
  rfl
end
section
variable {H:Type} {enc:TypeId×Value→H} {W:World}
def aBw{r:Reach}{b:Nat}{v:Value}{d:DataW H}{p:List MemPlace}{sp:Nat->Bool}{held:Bool}(hv:Value.okWide Tryz.prog W r b 5 v)(h:DataW.Trod enc Tryz.prog W 0 sp held 5 v d p):
  ∃n:Nat,v=.int .u8 (n:Int)/\n<=255:=by
 obtain⟨n,rfl,-,-,hw⟩:=open_int Tryz.underlying5 hv h
 have hw2:0<=n/\n<=255:=by simpa [Lit.wf,IntKind.min,IntKind.max,IntKind.signed,IntKind.bits]using hw
 exact⟨n.toNat,by rw[eE hw2.1],jb⟩
end
end Go.Proofs.Ins
namespace Go.Proofs.Xe
open Go.RowKit Go.Proofs.Ins
inductive Tt(α:Type) where
 |leaf
 |node (l:Tt α) (v:Option α) (r:Tt α)
inductive Pth where
 |e
 |l (p:Pth)
 |r (p:Pth)
 |bad
def pathOf(d:Nat):Nat->Pth:=
 Nat.rec (motive:=λ_=>Nat->Pth) (λ_=>.bad) (λ_ ih k=>Bool.rec (motive:=λ_=>Pth) (Bool.rec (motive:=λ_=>Pth) (.r (ih (Nat.sub (Nat.div k 2) 1))) (.l (ih (Nat.div k 2))) (Nat.beq (Nat.mod k 2) 1)) .e (Nat.beq k 0)) d
def Ef{α:Type}(p:Pth):Tt α->Option α:=
 Pth.rec (motive:=λ_=>Tt α->Option α) (λt=>Tt.rec (motive:=λ_=>Option α) none (λ_ v _ _ _=>v) t) (λ_ ih t=>Tt.rec (motive:=λ_=>Option α) none (λl _ _ _ _=>ih l) t)
  (λ_ ih t=>Tt.rec (motive:=λ_=>Option α) none (λ_ _ r _ _=>ih r) t) (λ_=>none) p
def aoa{α:Type}(x:Option α)(r:Tt α)(o:Option (Tt α)):Option (Tt α):=Option.rec (motive:=λ_=>Option (Tt α)) none (λl=>some (.node l x r)) o
def aob{α:Type}(x:Option α)(l:Tt α)(o:Option (Tt α)):Option (Tt α):=Option.rec (motive:=λ_=>Option (Tt α)) none (λr=>some (.node l x r)) o
def KG{α:Type}(v:Option α)(p:Pth):Tt α->Option (Tt α):=
 Pth.rec (motive:=λ_=>Tt α->Option (Tt α)) (λt=>Tt.rec (motive:=λ_=>Option (Tt α)) (some (.node .leaf v .leaf)) (λl _ r _ _=>some (.node l v r)) t)
  (λ_ ih t=>Tt.rec (motive:=λ_=>Option (Tt α)) (aoa none .leaf (ih .leaf)) (λl x r _ _=>aoa x r (ih l)) t)
  (λ_ ih t=>Tt.rec (motive:=λ_=>Option (Tt α)) (aob none .leaf (ih .leaf)) (λl x r _ _=>aob x l (ih r)) t) (λ_=>none) p
def pR{α:Type}(a b:Nat)(x y:α):(bif Nat.beq a b then x else y)=if a=b then x else y:=by simp
def MG(d k:Nat):pathOf (d+1) k=if k=0 then .e else if k%2=1 then .l (pathOf d (k/2))else .r (pathOf d (k/2-1)):=by rw[<-pR,<-pR];show Bool.rec (motive:=λ_=>Pth) _ _ _=_;show Bool.rec (motive:=λ_=>Pth) (Bool.rec (motive:=λ_=>Pth) (.r (pathOf d (k/2-1))) (.l (pathOf d (k/2))) (Nat.beq (k%2) 1)) .e (Nat.beq k 0)=_;cases Nat.beq k 0<;>cases Nat.beq (k%2) 1<;>rfl
def rZ{α:Type}(p:Pth):Ef p (.leaf:Tt α)=none:=by cases p<;>rfl
def Po{α:Type}(v:Option α):∀(d k j:Nat) (t t':Tt α),KG v (pathOf d k) t=some t'->Ef (pathOf d j) t'=if j=k then v else Ef (pathOf d j) t
 |0,k,j,t,t',h=>by cases h
 |d+1,k,j,t,t',h=>by
  rw[MG]at h;rw[MG d j];by_cases hk:k=0
  .rw[ab hk]at h;subst hk;cases t with
   |leaf=>
    have h1:some (Tt.node .leaf v .leaf)=some t':=h
    cases h1
    by_cases hj:j=0
    .rw[ab hj,ab hj];rfl
    .rw[ae hj,ae hj,rZ]
     split
     .exact rZ _
     .exact rZ _
   |node l x r=>
    have h1:some (Tt.node l v r)=some t':=h
    cases h1
    by_cases hj:j=0
    .rw[ab hj,ab hj];rfl
    .rw[ae hj,ae hj]
     split
     .rfl
     .rfl
  .rw[ae hk]at h;by_cases hm:k%2=1
   .rw[ab hm]at h;obtain⟨l,x,r,l',e1,e2,e3⟩:∃l x r l',KG v (pathOf d (k/2)) l=some l'/\t'=.node l' x r/\∀j,Ef j t=Ef j (.node l x r)\/(t=.leaf/\l=.leaf/\r=.leaf/\x=none):=by
     cases t with
     |leaf=>
      have h1:aoa none .leaf (KG v (pathOf d (k/2)) .leaf)=some t':=h
      cases hp:KG v (pathOf d (k/2)) .leaf with
      |none=>rw[hp]at h1;cases h1
      |some l'=>rw[hp]at h1;exact⟨.leaf,none,.leaf,l',hp,(eI h1).symm,λ_=>.inr ⟨rfl,rfl,rfl,rfl⟩⟩
     |node l x r=>
      have h1:aoa x r (KG v (pathOf d (k/2)) l)=some t':=h
      cases hp:KG v (pathOf d (k/2)) l with
      |none=>rw[hp]at h1;cases h1
      |some l'=>rw[hp]at h1;exact⟨l,x,r,l',hp,(eI h1).symm,λ_=>.inl rfl⟩
    have e4:∀p,Ef p t=Ef p (.node l x r):=λp=>by
     rcases e3 p with h|⟨rfl,rfl,rfl,rfl⟩
     .exact h
     .rw[rZ];cases p<;>first|rfl|exact(rZ _).symm
    rw[e4,e2];by_cases hj:j=0
    .rw[ab hj,ae jb];rfl
    .rw[ae hj];by_cases hjm:j%2=1
     .rw[ab hjm];show Ef (pathOf d (j/2)) l'=if j=k then v else Ef (pathOf d (j/2)) l;rw[Po v d _ _ _ _ e1];grind
     .rw[ae hjm,ae jb];rfl
   .rw[ae hm]at h;obtain⟨l,x,r,r',e1,e2,e3⟩:∃l x r r',KG v (pathOf d (k/2-1)) r=some r'/\t'=.node l x r'/\∀j,Ef j t=Ef j (.node l x r)\/(t=.leaf/\l=.leaf/\r=.leaf/\x=none):=by
     cases t with
     |leaf=>
      have h1:aob none .leaf (KG v (pathOf d (k/2-1)) .leaf)=some t':=h
      cases hp:KG v (pathOf d (k/2-1)) .leaf with
      |none=>rw[hp]at h1;cases h1
      |some r'=>rw[hp]at h1;exact⟨.leaf,none,.leaf,r',hp,(eI h1).symm,λ_=>.inr ⟨rfl,rfl,rfl,rfl⟩⟩
     |node l x r=>
      have h1:aob x l (KG v (pathOf d (k/2-1)) r)=some t':=h
      cases hp:KG v (pathOf d (k/2-1)) r with
      |none=>rw[hp]at h1;cases h1
      |some r'=>rw[hp]at h1;exact⟨l,x,r,r',hp,(eI h1).symm,λ_=>.inl rfl⟩
    have e4:∀p,Ef p t=Ef p (.node l x r):=λp=>by
     rcases e3 p with h|⟨rfl,rfl,rfl,rfl⟩
     .exact h
     .rw[rZ];cases p<;>first|rfl|exact(rZ _).symm
    rw[e4,e2];by_cases hj:j=0
    .rw[ab hj,ae jb];rfl
    .rw[ae hj];by_cases hjm:j%2=1
     .rw[ab hjm,ae (by intro e;subst e;exact hm hjm)];rfl
     .rw[ae hjm];show Ef (pathOf d (j/2-1)) r'=if j=k then v else Ef (pathOf d (j/2-1)) r;rw[Po v d _ _ _ _ e1];by_cases e:j=k
      .subst e;rw[ab rfl,ab rfl]
      .rw[ae jb,ae e]
inductive Tr(α:Type) where
 |fn (f:Nat->Option α)
 |tree (t:Tt α)
noncomputable section
def Tr.leaf{α:Type}:Tr α:=.tree .leaf
def Tr.get{α:Type}(t:Tr α)(k:Nat):Option α:=match t with|.fn f=>f k|.tree t=>Ef (pathOf 40 k) t
def Tr.set{α:Type}(t:Tr α)(k:Nat)(v:Option α):Tr α:=match t with
 |.fn f=>.fn λj=>if j=k then v else f j
 |.tree t=>match KG v (pathOf 40 k) t with|some t'=>.tree t'|none=>.fn λj=>if j=k then v else Ef (pathOf 40 j) t
def Tr.put{α:Type}(v:Option α)(_:Nat)(t:Tr α)(k:Nat):Option (Tr α):=some (t.set k v)
end
instance {α:Type}:CoeFun (Tr α) (λ_=>Nat->Option α):=⟨Tr.get⟩
theorem Tr.wo{α:Type}(t:Tr α)(k:Nat)(v:Option α)(j:Nat):(t.set k v).get j=if j=k then v else t.get j:=by
 cases t with
 |fn f=>rfl
 |tree t=>
  unfold Tr.set
  dsimp only
  cases h:KG v (pathOf 40 k) t with
  |none=>rfl
  |some t'=>exact Po v 40 k j t t' h
def Tr.get_put{α:Type}(v:Option α)(d:Nat)(t t':Tr α)(k j:Nat)(h:Tr.put v d t k=some t'):t'.get j=if j=k then v else t.get j:=by grind[Tr.put,Tr.wo]
theorem Tr.Eh{α:Type}(k:Nat):(Tr.leaf:Tr α).get k=none:=rZ _
inductive Cap where
 |ex (k:Nat)
 |opn
 |any
 deriving DecidableEq
inductive B where
 |int (k:IntKind) (n:Int)
 |bool (b:Bool)
 |str (s:ByteArray)
 |nat (n:Nat)
 |ptr (b o:Nat)
 |VZ
 |sl (b o n:Nat) (c:Cap)
 |aQ
 |mp (b:Nat)
 |any
 deriving DecidableEq
inductive V where
 |c (x:B)
 |agg (l:List B)
 |fn (f:Nat) (caps:List B)
 |Pq
 |tnil
 |aU (a r:V)
 |und
 deriving DecidableEq
abbrev jN(n:Nat):V:=.c (.int .i64 (.ofNat n))
structure Bk where
 cells:List B
 opn:Option (Nat×Nat)
structure St where
 h:Tr Bk
 aj:Nat
inductive O where
 |t (i:Nat)
 |k (v:V)
 deriving DecidableEq
inductive xq where
 |MH (x:O)
 |pick (c a b:O)
 |load (n:Nat) (agg:Bool) (x:O)
 |store (n:Nat) (a x:O)
 |Ei (off:Nat) (x:O)
 |field (off n:Nat) (agg:Bool) (x:O)
 |Ej (iP:Nat) (x i:O)
 |ext (i:Nat) (x:O)
 |bin (op:BinOp) (x y:O)
 |eqb (pos:Bool) (x y:O)
 |Hu (pos:Bool) (x y:O)
 |Jg (pos:Bool) (x y:O)
 |nil (k:Nat) (pos:Bool) (x:O)
 |not (x:O)
 |conv (k:IntKind) (x:O)
 |build (zero:List B) (parts:List (Nat×Nat×O))
 |Tq (f:Nat) (caps:List O)
 |len (x:O)
 |slice (iP:Nat) (x:O) (lo hi mx:Option O)
 |alloc (zero:List B)
 |box (x:O)
 |Nu (bytes:Nat) (zero:List B) (l c:O)
 |bsl (iP n:Nat) (zero:List B) (parts:List (Nat×Nat×O))
 |app (ty iP bytes:Nat) (s x:O)
 |call (g:O) (args:List O)
 |Tv (x:O)
 |min2 (x y:O)
 |slen (x:O)
 |Tz (x i:O)
 |Pv (x i:O)
 |YF (x:O)
 |Px
 |MI
 |lookup (m k:O)
 |V3 (m k v:O)
 |bad
 deriving DecidableEq
structure AO where
 dst:Option Nat
 g:Option (Nat×Bool)
 op:xq
 deriving DecidableEq
structure DO where
 i:Nat
 us:List Nat
 os:List Nat
 o:AO
inductive Dr where
 |fin (qs:List DO)
 |act (qs:List DO) (x:DO) (r:Dr)
inductive AC where
 |skip
 |ops (l:List AO)
 |drawn (d:Dr) (pt:List (List Nat)) (ds:List Nat)
 |seq (a b:AC)
 |cond (c:O) (a b:AC)
 |block (i:Nat) (a:AC)
 |loop (a:AC)
 |exit (i:Nat)
 |ret
 |bad
structure AF where
 n:Nat
 body:AC
 res:List (Nat×Option (Nat×Bool))
inductive AX where
 |normal
 |exit (i:Nat)
 |ret
 deriving DecidableEq
noncomputable section
def Bk.pl(k:Bk):Bool:=match k.opn with|some (0,_)=>false|_=>true
def Bk.rd(k:Bk):Bool:=match k.opn with|some (0,t)=>Nat.beq t 1|_=>true
def V.cells:V->Option (List B)
 |.c x=>some [x]
 |.agg l=>some l
 |_=>none
def r8(tm:Tr V)(i:Nat):V:=match tm.get i with|some v=>v|none=>.und
def O.ev(tm:Tr V):O->V
 |.t i=>r8 tm i
 |.k v=>v
def Ih:IntKind->Int->Bool
 |.i64,.ofNat m=>Nat.ble m 9223372036854775807
 |.i64,.negSucc m=>Nat.ble m 9223372036854775807
 |.u8,.ofNat m=>Nat.ble m 255
 |_,_=>false
def fN{α:Sort _}(m:Nat)(f:Nat->α):α:=match m with|0=>f 0|n+1=>f (n+1)
theorem jr{α:Sort _}(m:Nat)(f:Nat->α):fN m f=f m:=by cases m<;>rfl
def fI{α:Sort _}(m:Int)(f:Int->α):α:=match m with|.ofNat n=>fN n λn=>f (.ofNat n)|.negSucc n=>fN n λn=>f (.negSucc n)
theorem ai0{α:Sort _}(m:Int)(f:Int->α):fI m f=f m:=by
 cases m with
 |ofNat n=>exact jr n λn=>f (.ofNat n)
 |negSucc n=>exact jr n λn=>f (.negSucc n)
def mkI(k:IntKind)(n:Int):Option V:=fI n λn=>bif Ih k n then some (.c (.int k n))else none
def aDp:Bool->V->Bool
 |true,.agg _=>true
 |false,.c _=>true
 |_,_=>false
def B.kn:B->Bool
 |.any=>false
 |_=>true
def zT(l:List B)(o n:Nat)(agg:Bool):Option V:=
 match agg with
 |true=>let r:=(l.drop o).take n
  bif Nat.beq r.length n&&r.all B.kn then some (.agg r)else none
 |false=>match l.drop o with|x::_=>bif x.kn then some (.c x)else none|[]=>none
def yc:List B->Nat->List B->Option (List B)
 |l,0,vs=>bif Nat.ble vs.length l.length then some (vs++l.drop vs.length)else none
 |[],_+1,_=>none
 |x::l,o+1,vs=>match yc l o vs with|some r=>some (x::r)|none=>none
def V4(op:BinOp)(k:IntKind)(a b:Int):Option V:=
 match op with
 |.shr=>bif decide (b<0)then none else some (.c (.int k (a.fdiv (2^(min b.toNat k.bits)))))
 |.shl=>bif decide (b<0)then none else some (.c (.int k (k.wrap (a*2^(min b.toNat k.bits)))))
 |_=>none
def zU(op:BinOp)(k:IntKind)(a b:Int):Option V:=
 match op with
 |.add=>some (.c (.int k (k.wrap (a+b))))
 |.sub=>some (.c (.int k (k.wrap (a-b))))
 |.mul=>some (.c (.int k (k.wrap (a*b))))
 |.quo=>bif decide (b=0)then none else some (.c (.int k (k.wrap (a.tdiv b))))
 |.rem=>bif decide (b=0)then none else some (.c (.int k (a.tmod b)))
 |.and=>some (.c (.int k (k.wrap ((BitVec.ofInt k.bits a&&&BitVec.ofInt k.bits b).toNat))))
 |.or=>some (.c (.int k (k.wrap ((BitVec.ofInt k.bits a|||BitVec.ofInt k.bits b).toNat))))
 |op=>V4 op k a b
def KH(op:BinOp)(k:IntKind)(a b:Int):Option V:=
 match op with
 |.add=>match k with|.i64=>mkI .i64 (a+b)|k=>zU .add k a b
 |.sub=>match k with|.i64=>mkI .i64 (a-b)|k=>zU .sub k a b
 |.mul=>match k with|.i64=>mkI .i64 (a*b)|k=>zU .mul k a b
 |.eql=>some (.c (.bool (decide (a=b))))
 |.neq=>some (.c (.bool (!decide (a=b))))
 |.lss=>some (.c (.bool (decide (a<b))))
 |.leq=>some (.c (.bool (decide (a<=b))))
 |.gtr=>some (.c (.bool (decide (b<a))))
 |.geq=>some (.c (.bool (decide (b<=a))))
 |op=>zU op k a b
def jk(op:BinOp):V->V->Option V
 |.c (.int j a),.c (.int k b)=>bif decide (j=k)then KH op j a b else V4 op j a b
 |.c (.str a),.c (.str b)=>match op with|.eql=>some (.c (.bool (decide (a=b))))|.neq=>some (.c (.bool (!decide (a=b))))|_=>none
 |.c (.nat a),.c (.nat b)=>match op with|.eql=>some (.c (.bool (Nat.beq a b)))|.neq=>some (.c (.bool (!Nat.beq a b)))|_=>none
 |.c (.nat a),.c (.str b)=>bif Nat.beq b.size 0 then(match op with|.eql=>some (.c (.bool (Nat.beq a 0)))|.neq=>some (.c (.bool (!Nat.beq a 0)))|_=>none)else none
 |_,_=>none
def B.num:B->Option Nat
 |.nat n=>some n
 |.str s=>bif Nat.beq s.size 0 then some 0 else none
 |_=>none
def eqS(x y:B):Option Bool:=match x,y with
 |.str a,.str b=>some (decide (a=b))
 |x,y=>match x.num,y.num with
  |some m,some n=>some (Nat.beq m n)
  |_,_=>none
def eqB:List B->List B->Option Bool
 |[.bool a,b,c],[.bool d,e,f]=>match eqS b e,eqS c f with|some x,some y=>some ((a==d)&&(x&&y))|_,_=>none
 |_,_=>none
def Em:List B->List (Nat×Nat×V)->Option (List B)
 |z,[]=>some z
 |z,(o,n,v)::r=>match v.cells with
  |some l=>bif Nat.beq l.length n then match yc z o l with|some z=>Em z r|none=>none else none
  |none=>none
def En:V->Option Nat
 |.c (.int .i64 (.ofNat n))=>some n
 |_=>none
def St.new(J:St)(k:Bk):Option (Nat×St):=
 match Tr.put (some k) 40 J.h J.aj with
 |some h=>fN (J.aj+1) λm=>some (J.aj,⟨h,m⟩)
 |none=>none
def rep(z:List B):Nat->List B
 |0=>[]
 |n+1=>z++rep z n
def YG(b:Option O)(tm:Tr V)(d:Nat):Option Nat:=
 match b with
 |none=>some d
 |some x=>En (x.ev tm)
def abU(tm:Tr V):List O->Option (List B)
 |[]=>some []
 |x::r=>match x.ev tm,abU tm r with|.c b,some l=>some (b::l)|_,_=>none
def ash(c a b:O)(tm:Tr V):Option V:=
 match c.ev tm with|.c (.bool t)=>some (bif t then a.ev tm else b.ev tm)|_=>none
def ad6(n:Nat)(g:Bool)(x:O)(tm:Tr V)(J:St):Option V:=
 match x.ev tm with
  |.c (.ptr b o)=>match J.h.get b with|some k=>bif k.rd then zT k.cells o n g else none|none=>none
  |_=>none
def eqI:Int->Int->Bool
 |.ofNat m,.ofNat n=>Nat.beq m n
 |.negSucc m,.negSucc n=>Nat.beq m n
 |_,_=>false
def hasB:List B->Int->Int->Bool
 |.int _ e:: .int _ k::r,a,b=>bif eqI e a&&eqI k b then true else hasB r a b
 |_,_,_=>false
def ad7(m k:O)(tm:Tr V)(J:St):Option V:=
 match m.ev tm,k.ev tm with
  |.c (.mp b),.agg [.int .i64 e,.int .i64 j]=>match J.h.get b with
   |some ⟨c,some (0,0)⟩=>bif Ih .i64 e&&Ih .i64 j then some (.c (.bool (hasB c e j)))else none
   |_=>none
  |_,_=>none
def abV(off:Nat)(x:O)(tm:Tr V):Option V:=
 match x.ev tm with|.c (.ptr b o)=>fN (o+off) λm=>some (.c (.ptr b m))|_=>none
def ai1(off n:Nat)(g:Bool)(x:O)(tm:Tr V):Option V:=
 match x.ev tm with|.agg l=>zT l off n g|_=>none
def abW(iP:Nat)(x i:O)(tm:Tr V):Option V:=
 match x.ev tm,En (i.ev tm)with
  |.c (.sl b o len _),some j=>bif Nat.blt j len then fN (o+j*iP) λm=>some (.c (.ptr b m))else none
  |_,_=>none
def ai2(i:Nat)(x:O)(tm:Tr V):Option V:=
 match x.ev tm,i with
  |.aU a _,0=>some a
  |.aU _ (.aU a _),1=>some a
  |.aU _ (.aU _ (.aU a _)),2=>some a
  |_,_=>none
def ax0(p:Bool)(x y:O)(tm:Tr V):Option V:=
 match x.ev tm,y.ev tm with
  |.c (.bool a),.c (.bool b)=>some (.c (.bool (p==(a==b))))
  |_,_=>none
def eqL:List B->List B->Option Bool
 |[.int .i64 a,.int .i64 b],[.int .i64 c,.int .i64 d]=>some (decide (a=c)&&decide (b=d))
 |_,_=>none
def ai3(p:Bool)(x y:O)(tm:Tr V):Option V:=
 match x.ev tm,y.ev tm with
  |.agg l,.agg r=>match eqL l r with|some b=>some (.c (.bool (p==b)))|none=>none
  |_,_=>none
def ai4(p:Bool)(x y:O)(tm:Tr V):Option V:=
 match x.ev tm,y.ev tm with
  |.agg l,.agg r=>match eqB l r with|some b=>some (.c (.bool (p==b)))|none=>none
  |_,_=>none
def ax1(k:Nat)(p:Bool)(x:O)(tm:Tr V):Option V:=
 match k,x.ev tm with
  |0,.c (.sl ..)=>some (.c (.bool (!p)))
  |0,.c .aQ=>some (.c (.bool p))
  |1,.c (.ptr ..)=>some (.c (.bool (!p)))
  |1,.c .VZ=>some (.c (.bool p))
  |2,.fn ..=>some (.c (.bool (!p)))
  |2,.Pq=>some (.c (.bool p))
  |_,_=>none
def ax2(x:O)(tm:Tr V):Option V:=
 match x.ev tm with|.c (.bool b)=>some (.c (.bool !b))|_=>none
def asi(k:IntKind)(x:O)(tm:Tr V):Option V:=
 match x.ev tm with|.c (.int _ n)=>bif Ih k n then some (.c (.int k n))else some (.c (.int k (k.wrap n)))|_=>none
def ai5(z:List B)(ps:List (Nat×Nat×O))(tm:Tr V):Option V:=
 match Em z (ps.map λp=>(p.1,p.2.1,p.2.2.ev tm))with|some l=>some (.agg l)|none=>none
def asj(f:Nat)(cs:List O)(tm:Tr V):Option V:=
 match abU tm cs with|some l=>some (.fn f l)|none=>none
def qlen(x:O)(tm:Tr V):Option V:=
 match x.ev tm with|.c (.sl _ _ n _)=>some (jN n)|.c .aQ=>some (jN 0)|_=>none
def ad8(x:O)(tm:Tr V):Option V:=match x.ev tm with|.c (.str s)=>fN s.size λn=>some (jN n)|_=>none
def ad9(x i:O)(tm:Tr V):Option V:=
 match x.ev tm,En (i.ev tm)with|.c (.str s),some j=>(match s.data.toList[j]? with|some b=>fN b.toNat λn=>some (.c (.int .u8 (.ofNat n)))|none=>none)|_,_=>none
def ai6(x i:O)(tm:Tr V):Option V:=
 match x.ev tm,En (i.ev tm)with|.c (.str s),some j=>bif Nat.ble j s.size then some (.c (.str ⟨⟨s.data.toList.drop j⟩⟩))else none|_,_=>none
def byL:List B->Option (List UInt8)
 |[]=>some []
 |.int .u8 (.ofNat n)::r=>match byL r with|some l=>some (UInt8.ofNat n::l)|none=>none
 |_=>none
def asl(x:O)(tm:Tr V)(J:St):Option V:=
 match x.ev tm with
  |.c (.sl b o n (.ex _))=>(match J.h.get b with
   |some k=>bif k.rd&&Nat.ble (o+n) k.cells.length then(match byL ((k.cells.drop o).take n)with|some l=>some (.c (.str ⟨⟨l⟩⟩))|none=>none)else none
   |none=>none)
  |_=>none
def Py(iP:Nat)(x:O)(lo hi mx:Option O)(tm:Tr V):Option V:=
 match x.ev tm with
  |.c (.sl b o n c)=>
   match YG lo tm 0,YG hi tm n with
   |some l,some h=>bif Nat.ble l h&&Nat.ble h n then
     match mx with
     |none=>(match c with
      |.ex k=>bif Nat.blt l k then fN (o+l*iP) λm=>fN (h-l) λj=>fN (k-l) λq=>some (.c (.sl b m j (.ex q)))else some (.c (.sl b o 0 .any))
      |.opn=>bif Nat.beq l 0 then some (.c (.sl b o h .opn))else bif Nat.blt l n then fN (o+l*iP) λm=>fN (h-l) λj=>some (.c (.sl b m j .any))else some (.c (.sl b o 0 .any))
      |.any=>bif Nat.blt l n then fN (o+l*iP) λm=>fN (h-l) λj=>some (.c (.sl b m j .any))else some (.c (.sl b o 0 .any)))
     |some y=>match En (y.ev tm)with
      |some q=>bif Nat.ble h q&&Nat.ble q n then bif Nat.beq l 0 then some (.c (.sl b o h (bif Nat.beq n 0 then .any else .ex q)))else none else none
      |none=>none
    else none
   |_,_=>none
  |.c .aQ=>match YG lo tm 0,YG hi tm 0 with
   |some 0,some 0=>(match mx with|none=>some (.c .aQ)|some y=>match En (y.ev tm)with|some 0=>some (.c .aQ)|_=>none)
   |_,_=>none
  |_=>none
def asn(x:O)(tm:Tr V):Option V:=
 match x.ev tm with|.c (.ptr b o)=>some (.c (.ptr b o))|.fn f l=>some (.fn f l)|_=>none
def aso(x y:O)(tm:Tr V):Option V:=
 match x.ev tm,y.ev tm with
  |.c (.int j a),.c (.int k b)=>bif decide (j=k)then(match decide (b<a)with|true=>some (.c (.int k b))|false=>some (.c (.int j a)))else none
  |_,_=>none
def dA(op:xq)(tm:Tr V)(J:St):Option V:=
 match op with
 |.MH x=>some (x.ev tm)
 |.pick c a b=>ash c a b tm
 |.load n g x=>ad6 n g x tm J
 |.lookup m k=>ad7 m k tm J
 |.Ei off x=>abV off x tm
 |.field off n g x=>ai1 off n g x tm
 |.Ej iP x i=>abW iP x i tm
 |.ext i x=>ai2 i x tm
 |.bin op x y=>jk op (x.ev tm) (y.ev tm)
 |.eqb p x y=>ax0 p x y tm
 |.Hu p x y=>ai4 p x y tm
 |.Jg p x y=>ai3 p x y tm
 |.nil k p x=>ax1 k p x tm
 |.not x=>ax2 x tm
 |.conv k x=>asi k x tm
 |.build z ps=>ai5 z ps tm
 |.Tq f cs=>asj f cs tm
 |.len x=>qlen x tm
 |.slice iP x lo hi mx=>Py iP x lo hi mx tm
 |.Tv x=>asn x tm
 |.min2 x y=>aso x y tm
 |.slen x=>ad8 x tm
 |.Tz x i=>ad9 x i tm
 |.Pv x i=>ai6 x i tm
 |.YF x=>asl x tm J
 |_=>none
def oO(op:xq)(tm:Tr V):Option (List B×(Nat->V)):=
 match op with
 |.alloc z=>some (z,λb=>.c (.ptr b 0))
 |.box x=>match(x.ev tm).cells with|some l=>some (l,λb=>.c (.ptr b 0))|none=>none
 |.Nu bytes z l c=>match En (l.ev tm),En (c.ev tm)with
  |some n,some m=>bif Nat.ble n m&&(Nat.ble (bytes*m) 281474976710656&&Nat.ble m 1073741824)then some (rep z m,λb=>.c (.sl b 0 n (.ex m)))else none
  |_,_=>none
 |.bsl iP n z ps=>bif Nat.ble (n*iP) 16777216&&Nat.ble n 16777216 then match Em (rep z n) (ps.map λp=>(p.1,p.2.1,p.2.2.ev tm))with
  |some l=>some (l,λb=>.c (.sl b 0 n (.ex n)))
  |none=>none else none
 |_=>none
def sH(ty iP bytes:Nat)(s:V)(m:Nat)(news:List B)(J:St):Option (V×St):=
 match s with
 |.c .aQ=>bif Nat.beq m 0 then some (.c .aQ,J)else bif Nat.blt 0 iP&&(Nat.ble (m*bytes) 140737488355328&&Nat.ble m 1073741824)then
   match J.new ⟨news,some (iP,ty)⟩with|some (b,J)=>some (.c (.sl b 0 m .opn),J)|none=>none else none
 |.c (.sl b o n .opn)=>bif Nat.beq m 0 then some (.c (.sl b o n .opn),J)else match J.h.get b with
  |some ⟨cells,some (e,t)⟩=>bif Nat.blt 0 e&&Nat.beq o 0&&(Nat.beq e iP&&(Nat.beq t ty&&(Nat.ble ((n+m)*bytes) 140737488355328&&(Nat.ble (n+m) 1073741824&&Nat.ble (n*iP) cells.length))))then
    match Tr.put none 40 J.h b with
    |some h=>match(⟨h,J.aj⟩:St).new ⟨cells.take (n*iP)++news,some (iP,ty)⟩with
     |some (b',J)=>fN (n+m) λq=>some (.c (.sl b' 0 q .opn),J)
     |none=>none
    |none=>none else none
  |_=>none
 |.c (.sl b o n (.ex k))=>bif Nat.beq m 0 then bif Nat.ble n k then some (.c (.sl b o n (.ex k)),J)else none else match J.h.get b with
  |some bk=>bif (bk.rd&&(Nat.blt 0 iP&&((bk.cells.drop o).take (n*iP)).all B.kn))&&Nat.blt k (n+m)&&(Nat.ble ((n+m)*bytes) 140737488355328&&(Nat.ble (n+m) 1073741824&&Nat.ble (o+n*iP) bk.cells.length))then
    match J.new ⟨(bk.cells.drop o).take (n*iP)++news,some (iP,ty)⟩with
    |some (b',J)=>fN (n+m) λq=>some (.c (.sl b' 0 q .opn),J)
    |none=>none
   else bif bk.pl&&Nat.beq o 0&&Nat.ble (n+m) k then(match yc bk.cells (n*iP) news with
    |some l=>(match Tr.put (some ⟨l,bk.opn⟩) 40 J.h b with
     |some h=>fN (n+m) λq=>some (.c (.sl b 0 q (.ex k)),⟨h,J.aj⟩)
     |none=>none)
    |none=>none)else none
  |none=>none
 |.c (.sl b o n .any)=>bif Nat.beq m 0 then some (.c (.sl b o n .any),J)else none
 |_=>none
def wP(op:xq)(tm:Tr V)(J:St):Option (V×St):=
 match op with
 |.store n a x=>match a.ev tm,(x.ev tm).cells with
  |.c (.ptr b o),some vs=>bif Nat.beq vs.length n then match J.h.get b with
   |some k=>match bif k.pl then yc k.cells o vs else none with
    |some l=>match Tr.put (some ⟨l,k.opn⟩) 40 J.h b with|some h=>some (.und,⟨h,J.aj⟩)|none=>none
    |none=>none
   |none=>none else none
  |_,_=>none
 |.app ty iP bytes s x=>match x.ev tm with
  |.c .aQ=>sH ty iP bytes (s.ev tm) 0 [] J
  |.c (.sl b o m _)=>bif Nat.beq m 0 then sH ty iP bytes (s.ev tm) 0 [] J else match J.h.get b with
   |some k=>let l:=(k.cells.drop o).take (m*iP)
    bif k.rd&&(Nat.beq l.length (m*iP)&&l.all B.kn)then sH ty iP bytes (s.ev tm) m l J else none
   |none=>none
  |_=>none
 |.Px=>some (.und,J)
 |.MI=>match J.new ⟨[],some (0,0)⟩with|some (b,J)=>some (.c (.mp b),J)|none=>none
 |.V3 m k x=>match m.ev tm,k.ev tm,x.ev tm with
  |.c (.mp b),.agg [.int .i64 e,.int .i64 j],.c (.bool true)=>match J.h.get b with
   |some ⟨c,some (0,0)⟩=>bif Ih .i64 e&&(Ih .i64 j&&Nat.ble c.length 1000)then
     match Tr.put (some ⟨c++[.int .i64 e,.int .i64 j],some (0,0)⟩) 40 J.h b with|some h=>some (.und,⟨h,J.aj⟩)|none=>none
    else none
   |_=>none
  |_,_,_=>none
 |_=>none
def Pz(op:xq)(tm:Tr V):Option (Nat×List V):=
 match op with
 |.call g args=>match g.ev tm with
  |.fn f caps=>some (f,args.map (·.ev tm)++caps.map .c)
  |_=>none
 |_=>none
inductive Kd where|q|n|a|c
def xq.kind:xq->Kd
 |.alloc ..|.box ..|.Nu ..|.bsl ..=>.n
 |.store ..|.app ..|.Px|.MI|.V3 ..=>.a
 |.call ..=>.c
 |_=>.q
def KI(tm:Tr V)(d:Option Nat)(v:V):Option (Tr V):=
 match d with
 |none=>some tm
 |some d=>Tr.put (some v) 40 tm d
def oK(cl:Nat->List V->St->Option (V×St))(op:xq)(tm:Tr V)(J:St):Option (V×St):=
 match op.kind with
 |.q=>match dA op tm J with|some v=>some (v,J)|none=>none
 |.n=>match oO op tm with
  |some (l,v)=>match J.new ⟨l,none⟩with|some (b,J)=>some (v b,J)|none=>none
  |none=>none
 |.a=>wP op tm J
 |.c=>match Pz op tm with|some (f,args)=>cl f args J|none=>none
def gate(g:Option (Nat×Bool))(tm:Tr V):Option Bool:=
 match g with
 |none=>some true
 |some (t,b)=>match r8 tm t with
  |.c (.bool c)=>some (c==b)
  |.tnil=>some false
  |_=>none
def stepG(cl:Nat->List V->St->Option (V×St))(o:AO)(tm:Tr V)(J:St):Option (V×St):=
 match gate o.g tm with
 |some true=>oK cl o.op tm J
 |some false=>some (.tnil,J)
 |none=>none
def oP(cl:Nat->List V->St->Option (V×St)):List AO->Tr V->St->Option (Tr V×St)
 |[],tm,J=>some (tm,J)
 |o::r,tm,J=>match stepG cl o tm J with
  |some (v,J)=>match KI tm o.dst v with|some tm=>oP cl r tm J|none=>none
  |none=>none
def xq.acts(o:xq):Bool:=match o.kind with|.a|.c=>true|_=>false
def xq.looks:xq->Bool
 |.load ..|.lookup ..|.YF ..=>true
 |_=>false
structure jf where
 i:Nat
 o:AO
 tm:Tr V
 v:V
 gt:Bool
 nm:Option Nat
structure Rs where
 i:Nat
 d:Option Nat
 v:V
def eqC:Cap->Cap->Bool
 |.ex k,.ex j=>Nat.beq k j
 |.opn,.opn=>true
 |.any,.any=>true
 |_,_=>false
def agc:B->B->Bool
 |.int j m,.int k n=>decide (j=k)&&eqI m n
 |.bool a,.bool b=>a==b
 |.str m,.str n=>decide (m=n)
 |.nat m,.nat n=>Nat.beq m n
 |.ptr b o,.ptr c p=>Nat.beq b c&&Nat.beq o p
 |.VZ,.VZ=>true
 |.sl b o n c,.sl b' o' n' c'=>Nat.beq b b'&&(Nat.beq o o'&&(Nat.beq n n'&&eqC c c'))
 |.aQ,.aQ=>true
 |.mp b,.mp c=>Nat.beq b c
 |_,_=>false
def PD:List B->List B->Bool
 |[],[]=>true
 |x::l,y::r=>agc x y&&PD l r
 |_,_=>false
def eqV:V->V->Bool
 |.c x,.c y=>agc x y
 |.agg l,.agg r=>PD l r
 |.fn f l,.fn g r=>Nat.beq f g&&PD l r
 |.Pq,.Pq=>true
 |.tnil,.tnil=>true
 |.aU a r,.aU b s=>eqV a b&&eqV r s
 |_,_=>false
theorem att{a b:Cap}(h:eqC a b=true):a=b:=by cases a<;>cases b<;>first|rfl|cases h|(rw[aq h])
theorem atu{a b:Int}(h:eqI a b=true):a=b:=by cases a<;>cases b<;>first|cases h|(rw[aq h])
def aea{a b:B}(h:agc a b=true):a=b:=by
 cases a<;>cases b<;>simp only[agc,af,eQ,cE,beq_iff_eq]at h
 .grind[atu]
 .rw[h]
 .rw[h]
 .simp_all
 .simp_all
 .rfl
 .grind[Nat.eq_of_beq_eq_true,att]
 .rfl
 simp_all
theorem Oa:∀{l r:List B},PD l r=true->l=r
 |[],[],_=>rfl
 |_::_,_::_,h=>by simp only[PD,af]at h;rw[aea h.1,Oa h.2]
 |[],_::_,h=>by cases h
 |_::_,[],h=>by cases h
theorem abX:∀{a b:V},eqV a b=true->a=b
 |.c _,.c _,h=>by rw[aea h]
 |.agg _,.agg _,h=>by rw[Oa h]
 |.fn _ _,.fn _ _,h=>by grind[eqV,Nat.eq_of_beq_eq_true,Oa]
 |.Pq,.Pq,_=>rfl
 |.tnil,.tnil,_=>rfl
 |.aU _ _,.aU _ _,h=>by simp only[eqV,af]at h;rw[abX h.1,abX h.2]
def again(J:St)(p:jf):Bool:=
 bif p.gt then(match p.o.op.kind with
 |.q=>bif p.o.op.looks then(match dA p.o.op p.tm J with|some u=>eqV u p.v|none=>false)else true
 |.n=>(match oO p.o.op p.tm,p.nm with
  |some (l,_),some b=>(match J.h.get b with|some ⟨c,none⟩=>PD c l|_=>false)
  |_,_=>false)
 |_=>false)else true
def KJ(bU:Tr V)(res:List Rs):List Nat->Option (Tr V)
 |[]=>some bU
 |u::us=>match KJ bU res us,res.find? (λr=>Nat.beq r.i u)with
  |some tm,some r=>KI tm r.d r.v
  |_,_=>none
def Hw(dw tm:Tr V):List Nat->Option (Tr V)
 |[]=>some tm
 |t::os=>match Hw dw tm os with|some tm=>KI tm (some t) (r8 dw t)|none=>none
def PE(dw bU:Tr V)(res:List Rs)(us os:List Nat):Option (Tr V):=match KJ bU res us with|some tm=>Hw dw tm os|none=>none
def zV(dw bU:Tr V):List DO->St->List Rs->List jf->Option (St×List Rs×List jf)
 |[],J,res,pd=>some (J,res,pd)
 |x::l,J,res,pd=>match PE dw bU res x.us x.os with
  |some tm=>(match gate x.o.g tm with
   |some true=>(match x.o.op.kind with
    |.q=>(match dA x.o.op tm J with
     |some v=>zV dw bU l J (⟨x.i,x.o.dst,v⟩::res) (⟨x.i,x.o,tm,v,true,none⟩::pd)
     |none=>none)
    |.n=>(match oO x.o.op tm with
     |some (c,vf)=>(match J.new ⟨c,none⟩with
      |some (b,J)=>zV dw bU l J (⟨x.i,x.o.dst,vf b⟩::res) (⟨x.i,x.o,tm,vf b,true,some b⟩::pd)
      |none=>none)
     |none=>none)
    |_=>none)
   |some false=>(match x.o.op.kind with
    |.q|.n=>zV dw bU l J (⟨x.i,x.o.dst,.tnil⟩::res) (⟨x.i,x.o,tm,.tnil,false,none⟩::pd)
    |_=>none)
   |none=>none)
  |none=>none
def Nv(bU:Tr V):List Rs->Option (Tr V)
 |[]=>some bU
 |r::l=>match Nv bU l with|some tm=>KI tm r.d r.v|none=>none
def CQ(tm:Tr V):List Nat->Option (Tr V)
 |[]=>some tm
 |d::l=>match CQ tm l with|some t=>Tr.put none 40 t d|none=>none
def Bz(cl:Nat->List V->St->Option (V×St))(pt:List (List Nat))(dw bU:Tr V):Dr->St->List Rs->List jf->Option (Tr V×St)
 |.fin qs,J,res,pd=>(match zV dw bU qs J res pd with
  |some (J,res,pd)=>bif pd.all (again J)then(match Nv bU res with|some tm=>some (tm,J)|none=>none)else none
  |none=>none)
 |.act qs x r,J,res,pd=>(match zV dw bU qs J res pd with
  |some (J,res,pd)=>bif pd.all (again J)then(match PE dw bU res x.us x.os with
   |some tm=>(match stepG cl x.o tm J with
    |some (v,J')=>Bz cl pt dw bU r J' (⟨x.i,x.o.dst,v⟩::res) (pd.filter λp=>!((pt.getD x.i []).contains p.i))
    |none=>none)
   |none=>none)else none
  |none=>none)
def Jh:List V->Nat->Tr V->Option (Tr V)
 |[],_,t=>some t
 |v::r,i,t=>match KI t (some i) v with|some t=>Jh r (i+1) t|none=>none
def rH(tm:Tr V)(J:St):List (Nat×Option (Nat×Bool))->Option V
 |[]=>some .tnil
 |(t,none)::r=>match tm.get t,rH tm J r with|some v,some w=>some (.aU v w)|_,_=>none
 |(t,some (n,g))::r=>match dA (.load n g (.t t)) tm J,rH tm J r with|some v,some w=>some (.aU v w)|_,_=>none
def result(tm:Tr V)(J:St)(l:List (Nat×Option (Nat×Bool))):Option V:=
 match rH tm J l with
 |some (.aU v .tnil)=>some v
 |r=>r
structure Env where
 fns:Nat->Option AF
 Nw:Nat->List V->St->Option (V×St)
def YH(r:Option (Tr V×St)):Option (AX×Tr V×St):=match r with|some (tm,J)=>some (.normal,tm,J)|none=>none
def xDr(cl:Nat->List V->St->Option (V×St))(d:Dr)(pt:List (List Nat))(ds:List Nat)(tm:Tr V)(J:St):Option (AX×Tr V×St):=
 match CQ tm ds with
 |some bU=>YH (Bz cl pt tm bU d J [] [])
 |none=>none
def aoc(k:Tr V->St->Option (AX×Tr V×St))(r:Option (AX×Tr V×St)):Option (AX×Tr V×St):=
 match r with
 |some (.normal,tm,J)=>k tm J
 |r=>r
def YI(k:AC->Option (AX×Tr V×St))(v:V)(a b:AC):Option (AX×Tr V×St):=
 match v with
 |.c (.bool t)=>k (bif t then a else b)
 |_=>none
def ai7(i:Nat)(r:Option (AX×Tr V×St)):Option (AX×Tr V×St):=
 match r with
 |some (.exit j,tm,J)=>some (bif Nat.beq j i then .normal else .exit j,tm,J)
 |r=>r
def agd(res:List (Nat×Option (Nat×Bool)))(r:Option (AX×Tr V×St)):Option (V×St):=
 match r with
 |some (.normal,tm,J)|some (.ret,tm,J)=>(match result tm J res with|some v=>some (v,J)|none=>none)
 |_=>none
def Hz(Nw:Option (V×St))(fn:Option AF)(args:List V)(J:St)(k:AC->Tr V->St->Option (AX×Tr V×St)):Option (V×St):=
 match Nw with
 |some v=>some v
 |none=>match fn with
  |some F=>match Jh args 0 .leaf with
   |some tm=>agd F.res (k F.body tm J)
   |none=>none
  |none=>none
mutual
def exec(E:Env):Nat->AC->Tr V->St->Option (AX×Tr V×St)
 |0,_,_,_=>none
 |n+1,c,tm,J=>match c with
  |.skip=>some (.normal,tm,J)
  |.ops l=>YH (oP (iD E n) l tm J)
  |.drawn d pt ds=>xDr (iD E n) d pt ds tm J
  |.seq a b=>aoc (exec E n b) (exec E n a tm J)
  |.cond x a b=>YI (λc=>exec E n c tm J) (x.ev tm) a b
  |.block i a=>ai7 i (exec E n a tm J)
  |.loop a=>aoc (exec E n (.loop a)) (exec E n a tm J)
  |.exit i=>some (.exit i,tm,J)
  |.ret=>some (.ret,tm,J)
  |.bad=>none
def iD(E:Env):Nat->Nat->List V->St->Option (V×St)
 |0,_,_,_=>none
 |n+1,f,args,J=>Hz (E.Nw f args J) (E.fns f) args J (exec E n)
end
end
class rJ (P:Program):Prop where
 eq:P=Tryz.prog
instance:rJ Tryz.prog:=⟨rfl⟩
namespace ML
def laidOut:laidOutB Tryz.prog=true:=by kernel_rfl
def row:(114:TypeId)<Tryz.prog.types.size:=cI (by kernel_rfl)
def wide:(match Tryz.prog.underlying 114 with|some (.array _ _)|some (.struct _)=>true|_=>false)=true:=by kernel_rfl
def law:WideMaps.KeyLaw Tryz.prog 114:=deep_law_laid laidOut (m:=3) jb row (by kernel_rfl) wide
def keyed:Maps.Keyed Tryz.prog 114:=Maps.Keyed.of_law law
def Uj(a b:Int)(ha:(Lit.int .i64 a).wf=true)(hb:(Lit.int .i64 b).wf=true):∃l,keyOf Tryz.prog 114 (.agg #[.int .i64 a,.int .i64 b])=some l:=by
 have h1:Tryz.prog.keyType 114=true:=by kernel_rfl
 have h2:(Value.agg #[.int .i64 a,.int .i64 b]).formed Tryz.prog 114=true:=by kernel_rfl
 have aBx:Tryz.prog.cellsOf 114=2:=by kernel_rfl
 have c3:Tryz.prog.cellsOf 3=1:=by kernel_rfl
 have hpos:0<Tryz.prog.types.size:=cI (by kernel_rfl);obtain⟨m,hm⟩:∃m,Tryz.prog.types.size=m+1:=⟨Tryz.prog.types.size-1,jb⟩
 unfold keyOf;rw[Tryz.underlying114];simp only[h1,h2,Value.cells,cG,fX,hm];simp[Program.keyLits,Tryz.underlying114,Tryz.underlying3,aBx,c3,ha,hb]
def kv(x:Int×Int):Value:=.agg #[.int .i64 x.1,.int .i64 x.2]
def eqP(x y:Int×Int):Bool:=x.1==y.1&&x.2==y.2
def YJ(S:List (Int×Int))(x:Int×Int):Bool:=S.any λy=>eqP y x
def agf(S:List (Int×Int))(x y:Int×Int):YJ (S++[x]) y=(YJ S y||eqP x y):=by grind[YJ]
def Ii{P:Program}{e:TypeId}(he:P.underlying e=some .bool){v:Value}{z:DataW Unit×List MemPlace}{b:Bool}(h:plainElem P e v=some z)(hz:z.1=.lit (.bool b)):v=.bool b:=by unfold plainElem at h;grind
end ML
open ML
def Dy(w:World)(b:Nat)(S:List (Int×Int)):Prop:=
 ∃n D,n<=S.length/\w.ownsMap (H:=Unit) Tryz.prog 114 (plainElem Tryz.prog 4) b n D/\∀(x:Int×Int) (l:Lit),keyOf Tryz.prog 114 (kv x)=some l->D.atKey l (.lit (.bool false))=.lit (.bool (YJ S x))
def Dy.made(w:World):Dy (w.alloc (.map #[] 0)) w.heap.size []:=
 ⟨0,.map [],jp,World.ownsMap_made _ _ _ _,λx l _=>by rfl⟩
def Dy.keep{w w':World}{b:Nat}{S:List (Int×Int)}(h:Dy w b S)(hb:w'.heap[b]?=w.heap[b]?):Dy w' b S:=by obtain⟨n,D,h1,⟨es,clock,h2,h3⟩,h4⟩:=h;exact⟨n,D,h1,⟨es,clock,hb.trans h2,h3⟩,h4⟩
def ML.ai8(w:World):(zeroValue 4).run Tryz.prog w=.ok (.bool false) w:=by kernel_rfl
def Dy.look{w:World}{b:Nat}{S:List (Int×Int)}(h:Dy w b S)(x:Int×Int)(he:(Lit.int .i64 x.1).wf=true)(hk:(Lit.int .i64 x.2).wf=true):
  (Instr.lookup 143 (.map (some b)) (kv x) false).run Tryz.prog w=.ok (.bool (YJ S x)) w:=by
 obtain⟨n,D,h1,h2,h3⟩:=h
 obtain⟨l,hl⟩:=Uj x.1 x.2 he hk
 obtain⟨v,ps,hr,hv⟩:=h2.lookup keyed Tryz.underlying143 (ai8 w) (plainElem_bool Tryz.underlying4 false) hl
 unfold kv
 rw[hr,Ii Tryz.underlying4 hv (h3 x l hl)]
def Dy.store{w:World}{b:Nat}{S:List (Int×Int)}(h:Dy w b S)(x:Int×Int)(he:(Lit.int .i64 x.1).wf=true)(hk:(Lit.int .i64 x.2).wf=true)(hS:S.length<=1000000):
  ∃w',(Instr.mapUpdate 143 (.map (some b)) (kv x) (.bool true)).run Tryz.prog w=.ok () w'/\Dy w' b (S++[x])/\w.grownBy w' (some b):=by
 obtain⟨n,D,h1,h2,h3⟩:=h
 obtain⟨l,hl⟩:=Uj x.1 x.2 he hk
 obtain⟨w',hr,ho,hg⟩:=h2.update keyed Tryz.underlying143 (by unfold maxLen;omega) hl (plainElem_bool Tryz.underlying4 true)
 refine⟨w',hr,⟨n+1,_,by grind,ho,λy l' hl'=>?_⟩,hg⟩
 rw[agf]
 by_cases e:l'=l
 .subst e
  have e2:=keyed.inj hl hl'
  have e3:eqP x y=true:=by grind[kv,eqP]
  rw[e3,Bool.or_true,Maps.atKey_put_same h2.isMap (keyed.key hl)]
 .rw[Maps.atKey_put_other e,h3 y l' hl']
  have e3:eqP x y=false:=by
   cases e4:eqP x y
   .rfl
   .exfalso;unfold eqP at e4;simp at e4;have:kv x=kv y:=by unfold kv;rw[e4.1,e4.2]
    have h5:keyOf Tryz.prog 114 (kv x)=some l:=hl;rw[this,hl']at h5;exact e (eI h5)
  rw[e3,Bool.or_false]
def DC:List (Int×Int)->List B
 |[]=>[]
 |x::l=>.int .i64 x.1:: .int .i64 x.2::DC l
def abY(l:List (Int×Int))(x:Int×Int):DC (l++[x])=DC l++[.int .i64 x.1,.int .i64 x.2]:=by
 induction l with
 |nil=>rfl
 |cons y l ih=>simp[DC,ih]
theorem V5(l:List (Int×Int)):(DC l).length=2*l.length:=by
 induction l with
 |nil=>rfl
 |cons y l ih=>grind[DC]
theorem V6{a b:Int}:eqI a b=(a==b):=by
 have hn:∀m n:Nat,Nat.beq m n=decide (m=n):=λm n=>by
  by_cases h:m=n
  .simp_all
  grind[Nat.eq_of_beq_eq_true]
 cases a with
 |ofNat m=>cases b with
  |ofNat n=>show Nat.beq m n=decide (Int.ofNat m=Int.ofNat n);grind
  |negSucc n=>rfl
 |negSucc m=>cases b with
  |ofNat n=>rfl
  |negSucc n=>show Nat.beq m n=decide (Int.negSucc m=Int.negSucc n);grind
def agh(l:List (Int×Int))(x:Int×Int):hasB (DC l) x.1 x.2=YJ l x:=by
 induction l with
 |nil=>rfl
 |cons y l ih=>
  grind[DC,hasB,YJ,V6,eqP]
def V7{n:Int}(h:Ih .i64 n=true):(Lit.int .i64 n).wf=true:=by
 have hr: -9223372036854775808<=n/\n<=9223372036854775807:=by
  cases n with
  |ofNat m=>have:=ax h;grind
  |negSucc m=>have:=ax h;omega
 simp only[Lit.wf,af,eQ];have h1:IntKind.i64.min=-9223372036854775808:=by rfl
 simp_all
end Go.Proofs.Xe
end
