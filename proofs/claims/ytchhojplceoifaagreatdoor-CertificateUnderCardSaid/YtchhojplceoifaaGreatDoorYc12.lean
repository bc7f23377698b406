import Derived.Test.YtchhojplceoifaaGreatDoorYc11
import Derived.Deep.Upon
import Derived.Lib.AppendZerosOnto
import Derived.Lib.AppendZeros
set_option linter.all false
set_option maxRecDepth 100000
set_option maxHeartbeats 8000000
namespace Go.Proofs.Ins
open Go.RowKit
def Own(w:World)(b sz n:Nat)(F:Nat->List Value):Prop:=
 ∃c T,w.heap[b]?=some (.cells c T (0,0))/\c.size=n*sz/\∀i j,i<n->j<sz->c[i*sz+j]?=(F i)[j]?
def aN(F:Nat->List Value)(i:Nat)(x:List Value)(k:Nat):List Value:=if k=i then x else F k
theorem aP(F:Nat->List Value)(i:Nat)(x:List Value):aN F i x i=x:=ab rfl
def lJ.mono{w:World}{base base':Nat}{T:TypeId}{sz:Nat}{v:Value}{n:Nat}{F:Nat->List Value}(h:lJ w base T sz v n F)(hb:base'<=base):lJ w base' T sz v n F:=by
 obtain⟨⟨h1,h2⟩,h3⟩:=h;refine⟨⟨h1,?_⟩,h3⟩;rcases h2 with h2|⟨g,cap,cur,hv,hg,r⟩
 .exact .inl h2
 .exact .inr ⟨g,cap,cur,hv,aw hb hg,r⟩
def ix{α:Type}[Inhabited α](l:List α)(i:Nat):α:=l.getD i default
theorem fE{α:Type}[Inhabited α]{l:List α}{i:Nat}(h:i<l.length):ix l i=l[i]:=by grind[ix]
def QY{α:Type}[Inhabited α](l:List α)(x:α)(i:Nat):ix (l++[x]) i=if i<l.length then ix l i else if i=l.length then x else default:=by grind[ix]
theorem lM{α:Type}[Inhabited α]{l:List α}{i:Nat}(h:i<l.length):ix l i∈l:=by grind[fE]
def Uj{α:Type}[Inhabited α]{l:List α}{i k:Nat}(h:i<k):ix (l.take k) i=ix l i:=by grind[ix]
theorem bU{α:Type}[Inhabited α]{l:List α}{k:Nat}(h:k<l.length):l.take (k+1)=l.take k++[ix l k]:=by grind[fE,List.take_add_one]
structure C5 where
 h:Int
 r:Int
 a:R3
instance:Inhabited C5:=⟨⟨0,0,default⟩⟩
def C5.c(x:C5):List Value:=[.int .i64 x.h,.int .i64 x.r,.bool x.a.n,.string x.a.s,.string x.a.d]
structure AV where
 k:Int
 b:Bool
 a:R3
instance:Inhabited AV:=⟨⟨0,false,default⟩⟩
def AV.c(x:AV):List Value:=[.int .i64 x.k,.bool x.b,.bool x.a.n,.string x.a.s,.string x.a.d]
structure Lg where
 e:Int
 k:Int
instance:Inhabited Lg:=⟨⟨0,0⟩⟩
def Lg.c(x:Lg):List Value:=[.int .i64 x.e,.int .i64 x.k]
abbrev Kz:=List AV
abbrev iy:=List Kz
structure BQ where
 m:R3
 c:List C5
 a:List iy
instance:Inhabited BQ:=⟨⟨default,[],[]⟩⟩
structure wV where
 w:R3
 l:List Lg
instance:Inhabited wV:=⟨⟨default,[]⟩⟩
structure gB where
 e:List BQ
 d:List wV
instance:Inhabited gB:=⟨⟨[],[]⟩⟩
def Sl(w:World)(p:Nat->Prop)(sz:Nat)(v:Value)(n:Nat)(G:Nat->List Value):Prop:=
 ∃a cap,v=.slice a n cap/\n<=cap/\cap<=9223372036854775807/\(n=0\/∃b off,a=some ⟨b,off,none⟩/\p b/\b<w.heap.size/\FP w b off sz n G)/\∀i,i<n->(G i).length=sz
theorem Sl.nil(w:World)(p:Nat->Prop)(sz:Nat)(G:Nat->List Value):Sl w p sz (.slice none 0 0) 0 G:=⟨none,0,rfl,jp,jb,.inl rfl,λi hi=>jb⟩
def Sl.mono{w:World}{p q:Nat->Prop}{sz:Nat}{v:Value}{n:Nat}{G:Nat->List Value}(h:Sl w p sz v n G)(hp:∀b,p b->q b):Sl w q sz v n G:=by obtain⟨a,cap,hv,h1,h2,h3,h4⟩:=h;refine⟨a,cap,hv,h1,h2,?_,h4⟩;grind
def Sl.keep{w w':World}{p:Nat->Prop}{sz:Nat}{v:Value}{n:Nat}{G:Nat->List Value}(h:Sl w p sz v n G)(hb:∀b,p b->b<w.heap.size->w'.heap[b]?=w.heap[b]?):Sl w' p sz v n G:=by
 obtain⟨a,cap,hv,h1,h2,h3,h4⟩:=h;refine⟨a,cap,hv,h1,h2,?_,h4⟩;rcases h3 with h3|⟨b,off,ha,hpb,hl,r⟩
 .omega
 .have e:=hb b hpb hl;refine .inr ⟨b,off,ha,hpb,?_,λi j hi hj=>?_⟩
  .grind
  .rw[World.cell?_of_block (w:=w) (a:=⟨b,off+i*sz+j,none⟩) e];exact r i j hi hj
def Sl.congr{w:World}{p:Nat->Prop}{sz:Nat}{v:Value}{n:Nat}{G G':Nat->List Value}(h:Sl w p sz v n G)(hg:∀i,i<n->G i=G' i):Sl w p sz v n G':=by
 obtain⟨a,cap,hv,h1,h2,h3,h4⟩:=h;refine⟨a,cap,hv,h1,h2,?_,λi hi=>by grind⟩;rcases h3 with h3|⟨b,off,ha,hpb,hl,r⟩
 .omega
 .exact .inr ⟨b,off,ha,hpb,hl,λi j hi hj=>by rw[<-hg i hi];exact r i j hi hj⟩
def RL{α:Type}[Inhabited α](w:World)(p:Nat->Prop)(sz:Nat)(Q:List Value->α->Prop)(v:Value)(l:List α):Prop:=
 ∃G,Sl w p sz v l.length G/\∀i,i<l.length->Q (G i) (ix l i)
theorem RL.imp{α:Type}[Inhabited α]{w w':World}{p q:Nat->Prop}{sz:Nat}{Q Q':List Value->α->Prop}{v:Value}{l:List α}(h:RL w p sz Q v l)(hp:∀b,p b->q b)
  (hb:∀b,p b->b<w.heap.size->w'.heap[b]?=w.heap[b]?) (hQ:∀c x,Q c x->Q' c x):RL w' q sz Q' v l:=by
 obtain⟨G,h1,h2⟩:=h
 exact⟨G,(h1.keep hb).mono hp,λi hi=>hQ _ _ (h2 i hi)⟩
def QV{α:Type}(c:α->List Value)(cs:List Value)(x:α):Prop:=cs=c x
def RL.plain{α:Type}[Inhabited α]{w:World}{p:Nat->Prop}{sz:Nat}{c:α->List Value}{v:Value}{l:List α}(h:RL w p sz (QV c) v l):Sl w p sz v l.length (λi=>c (ix l i)):=by obtain⟨G,h1,h2⟩:=h;exact h1.congr h2
def Dc(w:World)(p:Nat->Prop)(v:Value)(l:List AV):Prop:=RL w p 5 (QV AV.c) v l
def abP(w:World)(p:Nat->Prop)(cs:List Value)(t:Kz):Prop:=∃v,cs=[v]/\Dc w p v t
def xH(w:World)(p:Nat->Prop)(v:Value)(l:iy):Prop:=RL w p 1 (abP w p) v l
structure Keeps(p:Nat->Prop)(w w':World):Prop where
 block:∀b,p b->b<w.heap.size->w'.heap[b]?=w.heap[b]?
def Keeps.of_below{p:Nat->Prop}{w w':World}(h:Below w.heap.size w w'):Keeps p w w':=⟨λb _ hb=>h.block b hb⟩
section
variable {w w' : World} {p q:Nat→Prop} {v:Value} {cs:List Value}
def Dc.keep{l:List AV}(h:Dc w p v l)(k:Keeps p w w')(hp:∀b,p b->q b):Dc w' q v l:=RL.imp h hp k.block λ_ _ h=>h
def abP.keep{t:Kz}(h:abP w p cs t)(k:Keeps p w w')(hp:∀b,p b->q b):abP w' q cs t:=by obtain⟨v,e,h⟩:=h;exact⟨v,e,h.keep k hp⟩
def xH.keep{l:iy}(h:xH w p v l)(k:Keeps p w w')(hp:∀b,p b->q b):xH w' q v l:=RL.imp h hp k.block λ_ _ h=>h.keep k hp
def Dc.on{l:List AV}(h:Dc w p v l)(k:Below w.heap.size w w'):Dc w' p v l:=h.keep (.of_below k) λ_ h=>h
def xH.on{l:iy}(h:xH w p v l)(k:Below w.heap.size w w'):xH w' p v l:=h.keep (.of_below k) λ_ h=>h
end
def Sl.get{w:World}{p:Nat->Prop}{sz:Nat}{a:Option Addr}{n cap:Nat}{G:Nat->List Value}(h:Sl w p sz (.slice a n cap) n G)(hn:0<n):
  ∃b off,a=some ⟨b,off,none⟩/\p b/\b<w.heap.size/\FP w b off sz n G:=by
 obtain⟨a',cap',hv,h1,h2,h3,h4⟩:=h
 grind
def Sl.form{w:World}{p:Nat->Prop}{sz:Nat}{v:Value}{n:Nat}{G:Nat->List Value}(h:Sl w p sz v n G):∃a cap,v=.slice a n cap/\n<=cap/\cap<=9223372036854775807:=by obtain⟨a,cap,hv,h1,h2,_⟩:=h;grind
def lJ.sl{w:World}{base:Nat}{T:TypeId}{sz:Nat}{v:Value}{n:Nat}{F:Nat->List Value}(h:lJ w base T sz v n F):Sl w (λb=>base<=b) sz v n F:=by
 rcases h.form with⟨rfl,rfl⟩|⟨g,cap,rfl,hb,hn,hm,hl,hr⟩
 .grind[Sl.nil]
 .exact⟨_,cap,rfl,hn,hm,.inr ⟨g,0,rfl,hb,hl,hr⟩,h.2⟩
def Sl.cellAt{w w':World}{p:Nat->Prop}{sz n:Nat}{a:Option Addr}{cap:Nat}{G:Nat->List Value}(h:Sl w p sz (.slice a n cap) n G){b off:Nat}(ha:a=some ⟨b,off,none⟩)(k:Below w.heap.size w w'){i j:Nat}(hi:i<n)(hj:j<sz):
  w'.cell? ⟨b,off+i*sz+j,none⟩=(G i)[j]?:=by
 obtain⟨b',off',ha',-,hl,hr⟩:=h.get jb
 rw[ha]at ha'
 simp only[bp,Addr.mk.injEq,and_true]at ha'
 obtain⟨rfl,rfl⟩:=ha'
 exact(hr.below k hl) i j hi hj
end Go.Proofs.Ins
namespace Go.Proofs.Xe
open Go.RowKit Go.Proofs.Ins
def y9(N:Nat):Value->B
 |.int k n=>.int k n
 |.bool b=>.bool b
 |.string s=>.str s
 |.pointer (some a)=>if a.spot=none/\a.block<N then .ptr a.block a.off else .any
 |.pointer none=>.TB
 |.slice (some a) n K=>if K<=9223372036854775807 then(if a.spot=none/\a.block<N/\n<=K then .sl a.block a.off n .any else if n=0 then .sl 0 0 0 .any else .any)else .any
 |.slice none 0 0=>.aX
 |_=>.any
def Ph.id(N:Nat):Ph:=λb=>if b<N then some (b,0)else none
theorem H7(N:Nat)(v:Value)(h:(y9 N v).kn=true):RB (Ph.id N) (y9 N v) v:=by
 unfold y9 at h⊢;split at h<;>try rfl
 .next a=>
  split at h
  .next hc=>
   rw[ab hc];obtain⟨b,o,s⟩:=a;obtain⟨h1,h2⟩:=hc;dsimp only at h1 h2;subst h1;exact⟨(b,0),ab h2,rfl⟩
  .cases h
 .next a n K=>
  split at h
  .next hK=>
   rw[ab hK];split at h
   .next hc=>
    rw[ab hc];obtain⟨b,o,s⟩:=a;obtain⟨h1,h2,h3⟩:=hc;dsimp only at h1 h2;subst h1;exact .inl ⟨(b,0),K,ab h2,rfl,h3,hK,trivial⟩
   .next hc=>
    rw[ae hc];split at h
    .next h0=>
     subst h0;rw[ab rfl];exact .inr ⟨rfl,rfl,a,K,rfl,hK⟩
    .cases h
  .cases h
 .cases h
def St.of(w:World):St:=⟨.fn λb=>match w.heap[b]? with|some (.cells cs _ _)=>some ⟨cs.toList.map (y9 w.heap.size),some (0,1)⟩|_=>none,w.heap.size⟩
def WF.of(w:World):WF (St.of w):=λb hb=>by have hb:w.heap.size<=b:=hb;show(match w.heap[b]? with|some (.cells cs _ _)=>some _|_=>none)=none;grind
def Rel.of(w:World):Rel w.heap.size w (Ph.id w.heap.size) (St.of w) w where
 n0:=jp
 bel:=Below.refl _ _
 inj:=λb b' p p' h1 _ _ hN _ _=>by grind[Ph.id]
 lo:=λb p h=>by grind[Ph.id]
 fz:=λb k p hk _ _=>by
  have hk:(match w.heap[b]? with|some (.cells cs _ _)=>some (⟨cs.toList.map (y9 w.heap.size),some (0,1)⟩:Bk)|_=>none)=some k:=hk;split at hk
  .cases hk;exact⟨rfl,rfl⟩
  grind
 blk:=λb k p hk hp=>by
  have hp':p.1=b/\b<w.heap.size:=by grind[Ph.id]
  have hk:(match w.heap[b]? with|some (.cells cs _ _)=>some (⟨cs.toList.map (y9 w.heap.size),some (0,1)⟩:Bk)|_=>none)=some k:=hk;split at hk
  .next cs T z hcs=>
   cases hk;refine .inr (.inr ⟨rfl,rfl,λj x hj hx=>?_⟩);grind[Go.Proofs.Xe.H7,Go.World.cell?]
  grind
 aj:=λb hb=>by have hb:w.heap.size<=b:=hb;refine⟨ae jb,?_⟩;show(match w.heap[b]? with|some (.cells cs _ _)=>some _|_=>none)=none;grind
def au7{w:World}{b o n:Nat}{l:List Value}(hn:l.length=n)(h0:0<n)(h:∀j v,l[j]?=some v->w.cell? ⟨b,o+j,none⟩=some v)(hk:∀v∈l,(y9 w.heap.size v).kn=true):
  ld (St.of w).h b o n true=some (.agg (l.map (y9 w.heap.size))):=by
 have hc:∃cs T z,w.heap[b]?=some (.cells cs T z)/\(cs.toList.drop o).take n=l:=by
  match l,hn with
  |v::l',hn=>
   have h1:=h 0 v rfl
   unfold World.cell? at h1
   dsimp only at h1
   split at h1
   .next cs T z e=>
    refine⟨cs,T,z,e,?_⟩
    apply List.ext_getElem?
    grind[Go.World.cell?]
   grind
  |[],hn=>simp at hn;omega
 obtain⟨cs,T,z,e,hl⟩:=hc
 have hg:(St.of w).h b=some ⟨cs.toList.map (y9 w.heap.size),some (0,1)⟩:=by show(match w.heap[b]? with|some (.cells cs _ _)=>some (⟨cs.toList.map (y9 w.heap.size),some (0,1)⟩:Bk)|_=>none)=_;rw[e]
 unfold ld
 rw[hg]
 show(bif true then _ else _)=_
 grind[zI,List.map_drop,List.map_take,abJ]
def abQ(N:Nat)(a:Addr)(n K:Nat):y9 N (.slice (some a) n K)=if K<=9223372036854775807 then(if a.spot=none/\a.block<N/\n<=K then .sl a.block a.off n .any else if n=0 then .sl 0 0 0 .any else .any)else .any:=rfl
def HL.of{w:World}{a:Option Addr}{n cap e:Nat}{F:Nat->List Value}(h:adp w a n e F)(hf:(a=none/\n=0/\cap=0)\/∃x,a=some x)(hn:n<=cap)(hc:cap<=9223372036854775807)(he:0<e)(hF:∀i,i<n->(F i).length=e)(hk:∀i,i<n->∀v∈F i,(y9 w.heap.size v).kn=true):
  HL (St.of w).h e (y9 w.heap.size (.slice a n cap)) n λi=>(F i).map (y9 w.heap.size):=by
 rcases hf with⟨rfl,rfl,rfl⟩|⟨x,rfl⟩
 .exact .inl ⟨rfl,rfl⟩
 .by_cases h0:n=0
  .subst h0
   rw[abQ,ab hc]
   split
   .exact .inr ⟨_,_,_,rfl,λi hi=>jb⟩
   .rw[ab rfl];exact .inr ⟨_,_,_,rfl,λi hi=>jb⟩
  .rcases h with h|⟨b,off,e1,hb,hr⟩
   .omega
   .cases e1
    rw[abQ,ab hc,ab ⟨rfl,hb,hn⟩]
    refine .inr ⟨_,_,_,rfl,λi hi=>au7 (hF i hi) he (λj v hj=>?_) (hk i hi)⟩
    have hlt:j<e:=by grind
    have:=hr i j hi hlt
    grind
end Go.Proofs.Xe
namespace Go.Proofs.Xe
open Go Go.RowKit Go.ChangeShapes Go.WideShapes Go.ChangeAt Go.Deep Go.Proofs.Ins Go.Proofs.YtchhojplceoifaaGreatDoor
section
variable {H:Type} {enc:TypeId×Value→H} {W:World} {sp:Nat→Bool} {held:Bool}
def Uk{P:Program}{t e:TypeId}(ht:P.underlying t=some (.slice e)){fuel:Nat}{a:Option Addr}{n c:Nat}{x:DataW H×List MemPlace}(h:DataW.trod enc P W 0 sp held fuel t [.slice a n c]=some x):((a=none/\n=0/\c=0)\/∃y,a=some y)/\n<=c/\c<=9223372036854775807:=by
 rcases open_slice ht h with⟨e1,-⟩|⟨a',len,cap,m,k,D,Pl,e1,-,hl,hm,-⟩
 .grind
 grind[maxLen]
def arB{fuel:Nat}{cs:List Value}{x:DataW H×List MemPlace}(h:DataW.trod enc Tryz.prog W 0 sp held fuel 22 cs=some x)(hL:Light Tryz.prog 22 x.1):
  ∃v n,∃M:Nat->Nat,cs=[v]/\n<=140737488351232/\HL (St.of W).h 1 (y9 W.heap.size v) n (λi=>[.int .u16 (.ofNat (M i))])/\∀i,i<n->M i<=65535:=by
 obtain⟨a,n,c,M,rfl,hn,hs,hM⟩:=afT h hL
 obtain⟨h1,h2,h3⟩:=Uk Tryz.underlying22 h
 exact⟨_,n,M,rfl,hn,HL.of hs h1 h2 h3 jj (λ_ _=>rfl) (λi _ v hv=>by simp only[c16,dT]at hv;rw[hv];rfl),hM⟩
def Ul{fuel:Nat}{cs:List Value}{x:DataW H×List MemPlace}(h:DataW.trod enc Tryz.prog W 0 sp held fuel 82 cs=some x):
  ∃m:Nat->Nat,cs=[.int .u16 (m 0:Int),.int .u16 (m 1:Int),.int .u16 (m 2:Int),.int .u16 (m 3:Int)]/\∀j,m j<=65535:=by
 obtain⟨xs,n,rfl,rfl,hl,hx,hf⟩:=DataW.trod_array Tryz.underlying82 h
 have hc:Tryz.prog.cellsOf 82=4:=by kernel_rfl
 have hc0:Tryz.prog.cellsOf 55=1:=by kernel_rfl
 simp only[hc0,fT]at hf
 rw[hc]at hl
 match cs,hl,xs,hx with
 |[c0,c1,c2,c3],_,[x0,x1,x2,x3],_=>
  obtain⟨m0,e0,l0⟩:=qw (show DataW.trod enc Tryz.prog W 0 sp held n 55 [c0]=some x0 from hf 0 jb)
  obtain⟨m1,e1,l1⟩:=qw (show DataW.trod enc Tryz.prog W 0 sp held n 55 [c1]=some x1 from hf 1 jb)
  obtain⟨m2,e2,l2⟩:=qw (show DataW.trod enc Tryz.prog W 0 sp held n 55 [c2]=some x2 from hf 2 jb)
  obtain⟨m3,e3,l3⟩:=qw (show DataW.trod enc Tryz.prog W 0 sp held n 55 [c3]=some x3 from hf 3 jb)
  simp at e0 e1 e2 e3
  subst e0 e1 e2 e3
  exact⟨λj=>if j=0 then m0 else if j=1 then m1 else if j=2 then m2 else m3,rfl,λj=>by grind⟩
def arC{fuel:Nat}{cs:List Value}{x:DataW H×List MemPlace}(h:DataW.trod enc Tryz.prog W 0 sp held fuel 23 cs=some x)(hL:Light Tryz.prog 23 x.1):
  ∃v n,∃L:Nat->Nat->Nat,cs=[v]/\n<=140737488351232/\HL (St.of W).h 4 (y9 W.heap.size v) n (λi=>[.int .u16 (.ofNat (L i 0)),.int .u16 (.ofNat (L i 1)),.int .u16 (.ofNat (L i 2)),.int .u16 (.ofNat (L i 3))])/\∀i j,i<n->L i j<=65535:=by
 obtain⟨a,n,c,C,rfl,hn,hs0,hx⟩:=I7 (k:=4) Tryz.underlying23 (by kernel_rfl) jb (cP (by kernel_rfl)) h hL
 obtain⟨L,hLL⟩:=choose_lt (α:=Nat->Nat) (p:=λi m=>C i=[.int .u16 (m 0:Int),.int .u16 (m 1:Int),.int .u16 (m 2:Int),.int .u16 (m 3:Int)]/\∀j,m j<=65535) (λi hi=>by obtain⟨_,n,y,h1,h2⟩:=hx i hi;exact Ul h1)
 have hs:=hs0.congr λi hi=>(hLL i hi).1
 obtain⟨h1,h2,h3⟩:=Uk Tryz.underlying23 h
 exact⟨_,n,L,rfl,hn,HL.of hs h1 h2 h3 jj (λ_ _=>rfl) (λi _ v hv=>by simp only[bA,List.not_mem_nil,or_false]at hv;rcases hv with rfl|rfl|rfl|rfl<;>rfl),λi j hi=>(hLL i hi).2 j⟩
def Um{fuel:Nat}{cs:List Value}{x:DataW H×List MemPlace}(h:DataW.trod enc Tryz.prog W 0 sp held fuel 85 cs=some x):
  ∃m:Nat->Nat,cs=[.int .u16 (m 0:Int),.int .u16 (m 1:Int),.int .u16 (m 2:Int)]/\∀j,m j<=65535:=by
 obtain⟨xs,n,rfl,rfl,hl,hx,hf⟩:=DataW.trod_array Tryz.underlying85 h
 have hc:Tryz.prog.cellsOf 85=3:=by kernel_rfl
 have hc0:Tryz.prog.cellsOf 55=1:=by kernel_rfl
 simp only[hc0,fT]at hf
 rw[hc]at hl
 match cs,hl,xs,hx with
 |[c0,c1,c2],_,[x0,x1,x2],_=>
  obtain⟨m0,e0,l0⟩:=qw (show DataW.trod enc Tryz.prog W 0 sp held n 55 [c0]=some x0 from hf 0 jb)
  obtain⟨m1,e1,l1⟩:=qw (show DataW.trod enc Tryz.prog W 0 sp held n 55 [c1]=some x1 from hf 1 jb)
  obtain⟨m2,e2,l2⟩:=qw (show DataW.trod enc Tryz.prog W 0 sp held n 55 [c2]=some x2 from hf 2 jb)
  simp at e0 e1 e2
  subst e0 e1 e2
  exact⟨λj=>if j=0 then m0 else if j=1 then m1 else m2,rfl,λj=>by grind⟩
def abR{fuel:Nat}{cs:List Value}{x:DataW H×List MemPlace}(h:DataW.trod enc Tryz.prog W 0 sp held fuel 24 cs=some x)(hL:Light Tryz.prog 24 x.1):
  ∃v n,∃L:Nat->Nat->Nat,cs=[v]/\n<=140737488351232/\HL (St.of W).h 3 (y9 W.heap.size v) n (λi=>[.int .u16 (.ofNat (L i 0)),.int .u16 (.ofNat (L i 1)),.int .u16 (.ofNat (L i 2))])/\∀i j,i<n->L i j<=65535:=by
 obtain⟨a,n,c,C,rfl,hn,hs0,hx⟩:=I7 (k:=3) Tryz.underlying24 (by kernel_rfl) jb (cP (by kernel_rfl)) h hL
 obtain⟨L,hLL⟩:=choose_lt (α:=Nat->Nat) (p:=λi m=>C i=[.int .u16 (m 0:Int),.int .u16 (m 1:Int),.int .u16 (m 2:Int)]/\∀j,m j<=65535) (λi hi=>by obtain⟨_,n,y,h1,h2⟩:=hx i hi;exact Um h1)
 have hs:=hs0.congr λi hi=>(hLL i hi).1
 obtain⟨h1,h2,h3⟩:=Uk Tryz.underlying24 h
 exact⟨_,n,L,rfl,hn,HL.of hs h1 h2 h3 jj (λ_ _=>rfl) (λi _ v hv=>by simp only[bA,List.not_mem_nil,or_false]at hv;rcases hv with rfl|rfl|rfl<;>rfl),λi j hi=>(hLL i hi).2 j⟩
end
end Go.Proofs.Xe
namespace Go.Proofs.Ins
def ES(f:Nat->Int):Nat->Int
 |0=>0
 |n+1=>if ES f n=0 then f n else ES f n
def oW{f:Nat->Int}:∀{n:Nat},(∀i,i<n->f i=0)->ES f n=0
 |0,_=>rfl
 |n+1,h=>by unfold ES;rw[ab (oW λi hi=>h i jb)];exact h n jb
theorem iR{f:Nat->Int}:∀{n:Nat},ES f n=0->∀i,i<n->f i=0
 |0,_,i,hi=>jb
 |n+1,h,i,hi=>by
  unfold ES at h;by_cases e:ES f n=0
  .rw[ab e]at h;by_cases e2:i=n
   .grind
   .exact iR e i jb
  omega
def QZ{f g:Nat->Int}:∀{n:Nat},(∀i,i<n->f i=g i)->ES f n=ES g n
 |0,_=>rfl
 |n+1,h=>by unfold ES;rw[QZ (n:=n) λi hi=>h i jb,h n jb]
def Un(x:C5):Int:=if x.h< -1\/8<=x.h then 19 else if x.r<0\/7<x.r then 1 else if sg x.a.q<0 then 7 else 0
def memT(t:Kz)(c:Int):Bool:=t.any λp=>p.k==c
def PX(a:iy)(c:Int):Bool:=a.any λt=>memT t c
def zT(l:List iy)(k:Nat)(c:Int):Bool:=(l.take k).any λa=>PX a c
def Z8(n:Nat)(tk:Int->Bool)(p:AV):Int:=
 if p.k< -1\/(n:Int)<=p.k then 1 else if p.k=-1/\p.b=false then 21 else if p.b=true/\sg p.a.q<0 then 7 else if p.k≠-1/\tk p.k=true then 20 else 0
def ahr(a:iy):Bool:=decide (24<a.length)||a.any λt=>decide (24<t.length)
def arD(n:Nat)(tk:Int->Bool)(t:Kz):Int:=ES (λi=>Z8 n tk (ix t i)) t.length
def Xc(n:Nat)(tk:Int->Bool)(a:iy):Int:=if ahr a=true then 2 else ES (λi=>arD n tk (ix a i)) a.length
def FX(e:BQ):Int:=
 if 24<e.c.length\/12<e.a.length then 2 else if sg e.m.q<0 then 7
 else if ES (λi=>Un (ix e.c i)) e.c.length≠0 then ES (λi=>Un (ix e.c i)) e.c.length
 else ES (λk=>Xc e.c.length (zT e.a k) (ix e.a k)) e.a.length
def amc{t:Kz}{c:Int}:memT t c=true↔∃i,i<t.length/\(ix t i).k=c:=by
 unfold memT;rw[eV];constructor
 .rintro⟨x,hx,h⟩;obtain⟨i,hi,rfl⟩:=aM hx;exact⟨i,hi,by grind[fE]⟩
 grind[lM]
def amd{a:iy}{c:Int}:PX a c=true↔∃i,i<a.length/\memT (ix a i) c=true:=by
 unfold PX;rw[eV];constructor
 .rintro⟨x,hx,h⟩;obtain⟨i,hi,rfl⟩:=aM hx;exact⟨i,hi,by grind[fE]⟩
 grind[lM]
def aep{l:List iy}{k:Nat}(h:k<l.length)(c:Int):zT l (k+1) c=(zT l k c||PX (ix l k) c):=by grind[zT,bU]
def Df{a:iy}:ahr a=false↔a.length<=24/\∀i,i<a.length->(ix a i).length<=24:=by grind[Go.Proofs.Ins.ahr,List.getElem_of_mem,Go.Proofs.Ins.fE]
def nG(l:List wV)(d k:Nat):List Lg:=((l.take d).flatMap λx=>x.l)++(ix l d).l.take k
def H8(s:List Lg)(x:Lg):Bool:=s.any λy=>y.e==x.e&&y.k==x.k
def holdL(l:List BQ)(x:Lg):Int:=(ix (ix l x.e.toNat).c x.k.toNat).h
def Z9(g:gB)(d k:Nat):Int:=
 let x:=ix (ix g.d d).l k
 if x.e<0\/(g.e.length:Int)<=x.e\/x.k<0\/((ix g.e x.e.toNat).c.length:Int)<=x.k then 1
 else if H8 (nG g.d d k) x=true then 20
 else if holdL g.e x≠holdL g.e (ix (ix g.d d).l 0)then 19 else 0
def PY(g:gB)(d:Nat):Int:=
 if 8<(ix g.d d).l.length then 2 else if sg (ix g.d d).w.q<0 then 7 else ES (Z9 g d) (ix g.d d).l.length
def Uo(g:gB)(i k:Nat):Int:=if(g.e.length:Int)<=(ix (ix g.e i).c k).h\/(ix (ix g.e i).c k).h=(i:Int)then 19 else 0
def NQ(g:gB):Int:=
 if 8<g.e.length\/16<g.d.length then 2
 else if ES (λi=>FX (ix g.e i)) g.e.length≠0 then ES (λi=>FX (ix g.e i)) g.e.length
 else if ES (λi=>ES (Uo g i) (ix g.e i).c.length) g.e.length≠0 then ES (λi=>ES (Uo g i) (ix g.e i).c.length) g.e.length
 else ES (PY g) g.d.length
structure arE(k:Nat)(e:BQ):Prop where
 m:e.m.fits k
 c:∀i,i<e.c.length->(ix e.c i).a.fits k
 a:∀i j l,i<e.a.length->j<(ix e.a i).length->l<(ix (ix e.a i) j).length->(ix (ix (ix e.a i) j) l).a.fits k
 lc:e.c.length<=140737488351232
 la:e.a.length<=140737488351232
 lt:∀i,i<e.a.length->(ix e.a i).length<=140737488351232
 lp:∀i j,i<e.a.length->j<(ix e.a i).length->(ix (ix e.a i) j).length<=140737488351232
structure aac(k:Nat)(g:gB):Prop where
 e:∀i,i<g.e.length->arE k (ix g.e i)
 w:∀i,i<g.d.length->(ix g.d i).w.fits k
 le:g.e.length<=140737488351232
 ld:g.d.length<=140737488351232
 ll:∀i,i<g.d.length->(ix g.d i).l.length<=140737488351232
end Go.Proofs.Ins
namespace Go.Proofs.Xe
open Go.RowKit Go.Proofs.Ins
def aZ(p:Nat->Prop)(h:Tr Bk)(e:Nat)(v:B)(n:Nat)(G:Nat->List B):Prop:=
 (n=0/\v=.aX)\/∃b o c,v=.sl b o n c/\(0<n->p b)/\∀i,i<n->ld h b (o+i*e) e true=some (.agg (G i))
section
variable {p q:Nat→Prop} {h h' : Tr Bk} {e n:Nat} {v:B} {G:Nat→List B}
def aZ.hl(hl:aZ p h e v n G):HL h e v n G:=by
 rcases hl with h|⟨b,o,c,h1,h2,h3⟩
 .exact .inl h
 .exact .inr ⟨b,o,c,h1,h3⟩
def aZ.len(hl:aZ p h e v n G):lenV (.c v)=some (.c (.int .i64 (.ofNat n))):=hl.hl.len
def aZ.kn(hl:aZ p h e v n G):v.kn=true:=hl.hl.kn
def aZ.pos(hl:aZ p h e v n G)(hn:0<n):∃b o c,v=.sl b o n c/\p b/\∀i,i<n->ld h b (o+i*e) e true=some (.agg (G i)):=by
 rcases hl with⟨rfl,-⟩|⟨b,o,c,h1,h2,h3⟩
 .omega
 grind
def aZ.keep(hl:aZ p h e v n G)(hk:∀b,p b->h' b=h b)(hp:∀b,p b->q b):aZ q h' e v n G:=by
 rcases hl with h1|⟨b,o,c,h1,h2,h3⟩
 .exact .inl h1
 .refine .inr ⟨b,o,c,h1,λh=>hp _ (h2 h),λi hi=>?_⟩;grind[ld]
def aZ.congr{G':Nat->List B}(hl:aZ p h e v n G)(hg:∀i,i<n->G i=G' i):aZ p h e v n G':=by
 rcases hl with h1|⟨b,o,c,h1,h2,h3⟩
 .exact .inl h1
 .exact .inr ⟨b,o,c,h1,h2,λi hi=>by grind⟩
theorem aZ.uniq{n':Nat}{G':Nat->List B}{p':Nat->Prop}(hl:aZ p h e v n G)(hl':aZ p' h e v n' G'):n=n'/\∀i,i<n->G i=G' i:=by
 rcases hl with⟨rfl,rfl⟩|⟨b,o,c,rfl,h2,h3⟩
 .rcases hl' with⟨rfl,-⟩|⟨b,o,c,h1,-⟩
  .simp
  grind
 .rcases hl' with⟨-,h1⟩|⟨b',o',c',h1,h2',h3'⟩
  .cases h1
  grind
end
def c5B(x:C5):List B:=[.int .i64 x.h,.int .i64 x.r,.bool x.a.n,.str x.a.s,.str x.a.d]
def BR(x:AV):List B:=[.int .i64 x.k,.bool x.b,.bool x.a.n,.str x.a.s,.str x.a.d]
def KT(x:Ins.Lg):List B:=[.int .i64 x.e,.int .i64 x.k]
def Et(p:Nat->Prop)(h:Tr Bk)(v:B)(l:List C5):Prop:=aZ p h 5 v l.length λi=>c5B (ix l i)
def Dh(p:Nat->Prop)(h:Tr Bk)(v:B)(l:List AV):Prop:=aZ p h 5 v l.length λi=>BR (ix l i)
def J7(p:Nat->Prop)(h:Tr Bk)(v:B)(l:List Ins.Lg):Prop:=aZ p h 2 v l.length λi=>KT (ix l i)
def fC(p:Nat->Prop)(h:Tr Bk)(v:B)(l:iy):Prop:=∃T:Nat->B,aZ p h 1 v l.length (λi=>[T i])/\∀i,i<l.length->Dh p h (T i) (ix l i)
def jm(p:Nat->Prop)(h:Tr Bk)(v:B)(l:List iy):Prop:=∃T:Nat->B,aZ p h 1 v l.length (λi=>[T i])/\∀i,i<l.length->fC p h (T i) (ix l i)
def Di(p:Nat->Prop)(h:Tr Bk)(v:B)(l:List BQ):Prop:=∃C A:Nat->B,aZ p h 5 v l.length (λi=>[.bool (ix l i).m.n,.str (ix l i).m.s,.str (ix l i).m.d,C i,A i])/\∀i,i<l.length->Et p h (C i) (ix l i).c/\jm p h (A i) (ix l i).a
def kL(p:Nat->Prop)(h:Tr Bk)(v:B)(l:List wV):Prop:=∃L:Nat->B,aZ p h 4 v l.length (λi=>[.bool (ix l i).w.n,.str (ix l i).w.s,.str (ix l i).w.d,L i])/\∀i,i<l.length->J7 p h (L i) (ix l i).l
structure wH(p:Nat->Prop)(h:Tr Bk)(ev dv:B)(g:gB):Prop where
 e:Di p h ev g.e
 d:kL p h dv g.d
section
variable {p q p' : Nat→Prop} {h h' : Tr Bk} {v ev dv:B}
def fC.keep{l:iy}(hl:fC p h v l)(hk:∀b,p b->h' b=h b)(hp:∀b,p b->q b):fC q h' v l:=by obtain⟨T,h1,h2⟩:=hl;exact⟨T,h1.keep hk hp,λi hi=>(h2 i hi).keep hk hp⟩
def jm.keep{l:List iy}(hl:jm p h v l)(hk:∀b,p b->h' b=h b)(hp:∀b,p b->q b):jm q h' v l:=by obtain⟨T,h1,h2⟩:=hl;exact⟨T,h1.keep hk hp,λi hi=>(h2 i hi).keep hk hp⟩
def Di.keep{l:List BQ}(hl:Di p h v l)(hk:∀b,p b->h' b=h b)(hp:∀b,p b->q b):Di q h' v l:=by obtain⟨C,A,h1,h2⟩:=hl;exact⟨C,A,h1.keep hk hp,λi hi=>⟨(h2 i hi).1.keep hk hp,(h2 i hi).2.keep hk hp⟩⟩
def kL.keep{l:List wV}(hl:kL p h v l)(hk:∀b,p b->h' b=h b)(hp:∀b,p b->q b):kL q h' v l:=by obtain⟨L,h1,h2⟩:=hl;exact⟨L,h1.keep hk hp,λi hi=>(h2 i hi).keep hk hp⟩
def wH.keep{g:gB}(hg:wH p h ev dv g)(hk:∀b,p b->h' b=h b)(hp:∀b,p b->q b):wH q h' ev dv g:=⟨hg.e.keep hk hp,hg.d.keep hk hp⟩
def Xd{α:Type}[Inhabited α]{l l':List α}(hn:l.length=l'.length)(h:∀i,i<l.length->ix l i=ix l' i):l=l':=by grind[List.ext_getElem,fE]
theorem Dh.uniq{l l':List AV}(hl:Dh p h v l)(hl':Dh p' h v l'):l=l':=by obtain⟨h1,h2⟩:=aZ.uniq hl hl';refine Xd h1 λi hi=>?_;have e:=h2 i hi;generalize ix l i=x at*;generalize ix l' i=y at*;obtain⟨x1,x2,x3,x4,x5⟩:=x;simp_all[BR]
theorem fC.uniq{l l':iy}(hl:fC p h v l)(hl':fC p' h v l'):l=l':=by obtain⟨T,h1,h2⟩:=hl;obtain⟨T',h1',h2'⟩:=hl';obtain⟨e1,e2⟩:=h1.uniq h1';refine Xd e1 λi hi=>?_;have e:=e2 i hi;simp only[List.cons.injEq,and_true]at e;have a:=h2 i hi;rw[e]at a;exact a.uniq (h2' i jb)
end
section
variable {N:Nat} {w0 w:World} {φ:Ph} {σ:St} {p:Nat→Prop}
def choose_lt'{α:Type}[Inhabited α]{n:Nat}{P:Nat->α->Prop}(h:∀i,i<n->∃a,P i a):∃f:Nat->α,∀i,i<n->P i (f i):=
 ⟨λi=>if hi:i<n then Classical.choose (h i hi)else default,λi hi=>by grind⟩
def InW(w:World)(b:Nat):Prop:=b<w.heap.size
def au8(hR:Rel N w0 φ σ w){b o e:Nat}{c:List B}{P:Nat×Nat}(hp:φ b=some P)(hl:ld σ.h b o e true=some (.agg c)):∃xs,kH φ c xs/\xs.length=e/\∀j,j<e->w.cell? ⟨P.1,o+j,none⟩=xs[j]?:=by
 unfold ld at hl;cases hk:σ.h b with
 |none=>grind
 |some k=>
  rw[hk]at hl
  dsimp only at hl
  cases hr:k.rd with
  |false=>grind
  |true=>
   rw[hr]at hl
   simp only[cD]at hl
   unfold zI at hl
   dsimp only at hl
   cases hx:(Nat.beq ((k.cells.drop o).take e).length e&&((k.cells.drop o).take e).all B.kn)with
   |false=>grind
   |true=>
    rw[hx]at hl
    cases hl
    rw[af]at hx
    have hle:=ap hx.1
    obtain⟨xs,h1,h2⟩:=hR.reads (k:=k) hk hr hp ((k.cells.drop o).take e) o (λj x hj=>by grind) hx.2
    have hlx:xs.length=e:=by rw[<-h1.length,hle]
    grind
def aZ.un(hR:Rel N w0 φ σ w){e n:Nat}{v:B}{G:Nat->List B}{cv:Value}(hl:aZ p σ.h e v n G)(hv:RB φ v cv):
  ∃F:Nat->List Value,Sl w (InW w) e cv n F/\∀i,i<n->kH φ (G i) (F i):=by
 rcases hl with⟨rfl,rfl⟩|⟨b,o,c,rfl,-,h3⟩
 .have:cv=.slice none 0 0:=hv
  simp_all[Sl.nil]
 .rcases hv with⟨P,K,hp,rfl,hnK,hK,-⟩|⟨rfl,rfl,a,K,rfl,hK⟩
  .obtain⟨F,hF⟩:=choose_lt' (n:=n) (P:=λi (xs:List Value)=>kH φ (G i) xs/\xs.length=e/\∀j,j<e->w.cell? ⟨P.1,o+i*e+j,none⟩=xs[j]?) (λi hi=>au8 hR hp (h3 i hi))
   refine⟨F,⟨_,K,rfl,hnK,hK,?_,λi hi=>(hF i hi).2.1⟩,λi hi=>(hF i hi).1⟩
   exact .inr ⟨_,_,rfl,hR.lo _ _ hp,hR.lo _ _ hp,λi j hi hj=>(hF i hi).2.2 j hj⟩
  .exact⟨λ_=>[],⟨_,K,rfl,bj _,hK,.inl rfl,λi hi=>jb⟩,λi hi=>jb⟩
def kH.one{x:B}{r:List Value}(h:kH φ [x] r):∃v,r=[v]/\RB φ x v:=by
 match r,h with
 |[v],h=>exact⟨v,rfl,h.1⟩
def Dh.un(hR:Rel N w0 φ σ w){l:List AV}{v:B}{cv:Value}(hl:Dh p σ.h v l)(hv:RB φ v cv):Dc w (InW w) cv l:=by
 obtain⟨F,h1,h2⟩:=aZ.un hR hl hv;refine⟨F,h1,λi hi=>?_⟩;have:=h2 i hi;unfold BR at this;match F i,this with
 |[a,b,c,d,e],⟨ha,hb,hc,hd,he,_⟩=>
  have ha:a=_:=ha
  have hb:b=_:=hb
  have hc:c=_:=hc
  have hd:d=_:=hd
  have he:e=_:=he
  subst ha hb hc hd he
  rfl
def fC.un(hR:Rel N w0 φ σ w){l:iy}{v:B}{cv:Value}(hl:fC p σ.h v l)(hv:RB φ v cv):xH w (InW w) cv l:=by obtain⟨T,h0,h3⟩:=hl;obtain⟨F,h1,h2⟩:=aZ.un hR h0 hv;refine⟨F,h1,λi hi=>?_⟩;obtain⟨u,e,hu⟩:=(h2 i hi).one;exact⟨u,e,(h3 i hi).un hR hu⟩
end
noncomputable section
end
end Go.Proofs.Xe
namespace Go.Proofs.Ins
open Go.RowKit
def axy:Value->Nat
 |.slice _ n _=>n
 |_=>0
def aad{P:Program}{w:World}{base:Nat}{t T:TypeId}{sz bytes:Nat}{v x:Value}{n m:Nat}{F G:Nat->List Value}{p:Nat->Prop}
  (h1:P.underlying t=some (.slice T)) (h2:(P.info? T).map (λi=>(i.zero.map (λz=>z.cells.size),i.size,i.bytes))=some (some sz,sz,bytes)) (hsz:0<sz)
  (hown:lJ w base T sz v n F) (hx:Sl w p sz x m G) (h1c:∀i,i<m->∀u∈G i,u.oneCell'=true) (hn:(n+m)*bytes<=140737488355328) (hn2:n+m<=4294967296) (hbase:base<=w.heap.size):
  ∃v' w',(∀ty,(Builtin.append_ #[t,t] ty #[v,x]).run P w=.ok v' w')/\lJ w' base T sz v' (n+m) (λj=>if j<n then F j else G (j-n))/\Below base w w'/\(v=.slice none 0 0->m=0->v'=.slice none 0 0):=by
 obtain⟨i,z,hi,hz,hzs,hsize,hbb⟩:=Tm h2
 obtain⟨a,cap,rfl,hc1,hc2,hr,hGl⟩:=hx
 have hfin:∀v' w',w'.ownsRow base T sz v' (n+m) ((List.range n).flatMap F++(List.range m).flatMap G)->lJ w' base T sz v' (n+m) (λj=>if j<n then F j else G (j-n)):=λv' w' ho=>by
  refine⟨?_,λi hi=>?_⟩
  .have e:(List.range n).flatMap F++(List.range m).flatMap G=(List.range (n+m)).flatMap (λj=>if j<n then F j else G (j-n)):=by
    rw[List.range_add,cU];congr 1
    .grind[List.map_congr_left]
    .rw[iA,List.flatMap_def,List.flatMap_def];grind[List.map_congr_left]
   grind
  .dsimp only;split
   .rename_i h;exact hown.2 i h
   grind
 cases a with
 |none=>
  have hm:m=0:=by grind
  subst hm
  obtain⟨sLen,sCap,bs,rfl,hle⟩:∃sLen sCap bs,v=.slice bs sLen sCap/\sLen<=sCap:=by
   rcases hown.form with⟨rfl,rfl⟩|⟨g,cap',rfl,_,hn',_⟩
   .grind
   grind
  refine⟨_,w,λty=>run_append_nothing w t t ty T i h1 hi bs sLen sCap hle (.slice none 0 cap) ?_,?_,Below.refl _ _,λh _=>h⟩
  .exact{ kind:=.inl ⟨T,h1⟩,len:=by simp[axy,go_sem],newsLen:=by simp,cells:=run_firstCells_none w _ _ _ _,cellsD:=run_firstCells_none w.drew _ _ _ _,one:=by simp }
  .exact hown.congr λi hi=>by grind
 |some ad=>
  have hnews:∀j u,((List.range m).flatMap G)[j]?=some u->w.cell? (ad.add j)=some u:=λj u hj=>by
   rcases hr with h|⟨b,off,h,-,-,hrd⟩
   .subst h;simp at hj
   .simp only[bp]at h;subst h;have hjl:j<m*sz:=by
     have h9:=(List.getElem?_eq_some_iff.mp hj).1;have hlen:((List.range m).flatMap G).length=m*sz:=by
      clear hj h9 hn hn2 hrd h1c hc1 hfin;induction m with
      |zero=>simp
      |succ m ih=>
       rw[fv,cU,aD,ih (λi hi=>hGl i jb)]
       simp[hGl m jb,cB]
     omega
    have hq:=hrd (j/sz) (j%sz) (dE (by rw[dC];exact hjl)) (dq _ hsz);have hfl:=yF m hGl (j/sz) (j%sz) (dE (by rw[dC];exact hjl)) (dq _ hsz);have e:j/sz*sz+j%sz=j:=by rw[dC];exact dx j sz
    rw[e]at hfl;rw[<-hfl,hj]at hq;have ea:(⟨b,off,none⟩:Addr).add j=⟨b,off+j/sz*sz+j%sz,none⟩:=by
     unfold Addr.add;split
     .rename_i h0;subst h0;simp
     .rw[Nat.add_assoc,e]
    rw[ea];exact hq
  have hlen:((List.range m).flatMap G).length=m*sz:=by
   clear hnews hn hn2 h1c hc1 hr hfin;induction m with
   |zero=>simp
   |succ m ih=>
    rw[fv,cU,aD,ih (λi hi=>hGl i jb)]
    simp[hGl m jb,cB]
  have hone:∀u∈(List.range m).flatMap G,u.oneCell'=true:=λu hu=>by obtain⟨i,hi,hu⟩:=cF.mp hu;exact h1c i (by simpa using hi) u hu
  obtain⟨v',w',hr9,ho9,hg9,hnl⟩:=run_append_own (P:=P) w base t 0 T i z sz bytes h1 hi hz hsize hbb hzs hsz v n _ hown.1 ad m cap _ hlen hnews hone (by unfold maxLen;omega) hn hbase
  exact⟨v',w',λty=>hr9,hfin v' w' ho9,Gv hown.1 hg9 hbase,λa b=>hnl.mpr ⟨a,b⟩⟩
theorem arF{α:Type}[Inhabited α](l1 l2:List α)(j:Nat):ix (l1++l2) j=if j<l1.length then ix l1 j else ix l2 (j-l1.length):=by grind[ix]
def Xf:(Tryz.prog.info? 126).map (λi=>(i.zero.map (λz=>z.cells.size),i.size,i.bytes))=some (some 5,5,56):=by kernel_rfl
def ahs:∃i z,Tryz.prog.info? 126=some i/\i.zero=some z/\z.cells.size=5/\i.size=5/\i.bytes=56:=Tm Xf
def au9(w:World)(T:TypeId)(n sz z:Nat)(F:Nat->List Value)(e:Ending)(w':World):Prop:=
 ∃v,e=.returned v/\lJ w' w.heap.size T sz v n F/\Below w.heap.size w w'/\(z=0->v=.slice none 0 0)
def aer(n:Nat)(w:World)(hn:n<=1000000):
  Calls Tryz.prog 213 #[.slice none 0 0,.int .i64 (n:Int)] w (au9 w 126 0 5 n λ_=>[]):=by
 by_cases h0:n=0
 .subst h0
  go_enter Tryz.func213,Tryz.ntmps213
  go_wp2
  go_ret
  exact⟨_,rfl,lJ.nil _ _ _ _ _,Below.refl _ _,λ_=>rfl⟩
 .obtain⟨i,z,hi,hz,hzs,hsize,hbb⟩:=ahs
  have hrz:∀ty,(Builtin.append_ #[127,3] ty #[.slice none 0 0,.int .i64 (n:Int)]).run Tryz.prog w=
    .ok (.slice (some ⟨w.heap.size,0,none⟩) (0+n) (grownCap w (0+n) 0 126)) (w.drew.alloc (.cells ((#[]:Array Value)++Builtin.zeroCells z.cells n++Builtin.zeroCells z.cells (grownCap w (0+n) 0 126-(0+n))) 126)):=λty=>
   Lib.run_append_grow_zeros w 127 3 ty 126 i z .i64 .i64 Tryz.underlying127 Tryz.underlying3 hi hz none 0 0 [] (run_firstCells_none w.drew _ _ _ _) n jb jb jb jb
    kd (by grind[nextslicecap_zero])
  have hGn:0+n<=grownCap w (0+n) 0 126:=grownCap_ge w _ _ _
  have hGm:=grownCap_le_maxLen w (0+n) 0 126 (by unfold maxLen;omega)
  have hown:lJ (w.drew.alloc (.cells ((#[]:Array Value)++Builtin.zeroCells z.cells n++Builtin.zeroCells z.cells (grownCap w (0+n) 0 126-(0+n))) 126)) w.heap.size 126 5 (.slice (some ⟨w.heap.size,0,none⟩) 0 (grownCap w (0+n) 0 126)) 0 (λ_=>[]):=by refine⟨⟨by simp,.inr ⟨w.heap.size,_,_,rfl,jp,heap_alloc_new w.drew _,jb,hGm,?_,by simp⟩⟩,λi hi=>jb⟩;grind[size_zeroCells]
  have HO:=jx hown
  have hz5:(w.drew.alloc (.cells ((#[]:Array Value)++Builtin.zeroCells z.cells n++Builtin.zeroCells z.cells (grownCap w (0+n) 0 126-(0+n))) 126)).heap.size=w.heap.size+1:=by simp
  have HB:=jx (show Below w.heap.size w (w.drew.alloc (.cells ((#[]:Array Value)++Builtin.zeroCells z.cells n++Builtin.zeroCells z.cells (grownCap w (0+n) 0 126-(0+n))) 126))from(Below.refl _ _).drew.alloc kc _)
  clear hown hz5
  generalize grownCap w (0+n) 0 126=G at*
  generalize hW:w.drew.alloc (.cells ((#[]:Array Value)++Builtin.zeroCells z.cells n++Builtin.zeroCells z.cells (G-(0+n))) 126)=W at*
  have h1:(0:Int)<(n:Int):=jb
  unfold maxLen at hGm
  clear hW hi hz hzs hsize hbb
  go_enter Tryz.func213,Tryz.ntmps213
  go_wp2_with (at_builtin;refine Lib.wpList_append_run _ rfl _ _ _ _ rfl _ _ rfl rfl _ _ (hrz _) ?_)
  go_ret
  exact⟨_,rfl,HO.out,HB.out,λh=>absurd h h0⟩
def tot(a:iy)(k:Nat):Nat:=(a.take k).flatten.length
def aht(a:iy):tot a 0=0:=by rfl
def ahu{a:iy}{k:Nat}(h:k<a.length):tot a (k+1)=tot a k+(ix a k).length:=by grind[tot,bU]
def NR{a:iy}{k:Nat}:tot a k<=a.flatten.length:=by grind[tot,List.take_append_drop]
def ame(a:iy):tot a a.length=a.flatten.length:=by grind[tot]
def ahv{a:iy}{i j:Nat}(h:i<=j):tot a i<=tot a j:=by grind[tot,Nat.exists_eq_add_of_le]
def prt(a:iy)(k j:Nat):List Value:=(ix (a.take k).flatten j).c
def ahw{a:iy}{k:Nat}(h:k<a.length)(j:Nat):(if j<tot a k then prt a k j else(ix (ix a k) (j-tot a k)).c)=prt a (k+1) j:=by grind[prt,tot,bU,arF]
def amf(a:iy)(j:Nat):prt a a.length j=(ix a.flatten j).c:=by grind[prt]
def amg(x:AV):∀u∈x.c,u.oneCell'=true:=by grind[AV.c,Value.oneCell']
def H9(p:Nat->Prop)(v:Value)(a:iy)(w:World)(hA:xH w p v a)(la:a.length<=140737488351232)(lf:a.flatten.length<=1000000):
  Calls Tryz.prog 181 #[v] w (au9 w 126 a.flatten.length 5 a.flatten.length λi=>(ix a.flatten i).c):=by
 obtain⟨G,hS,hQ⟩:=hA
 obtain⟨aa,cap,rfl,-,-⟩:=hS.form
 have HS:=jx hS
 have HQ:=jx hQ
 have HTS:=jx (λk h=>ahu (a:=a) (k:=k) h)
 have HTL:=jx (λk=>NR (a:=a) (k:=k))
 have HT0:=jx (aht a)
 have HTM:=jx (λi j (h:i<=j)=>ahv (a:=a) h)
 have HPS:=jx (λk h=>ahw (a:=a) (k:=k) h)
 have HTA:=jx (ame a)
 have HPA:=jx (amf a)
 clear hS hQ
 generalize hfl:a.flatten.length=N at*
 generalize hff:(λi=>(ix a.flatten i).c)=FF at*
 have HPA:=jx (show∀j,prt a a.length j=FF j from λj=>by rw[HPA.out,<-hff])
 clear hff hfl
 generalize tot a=TT at*
 generalize hpp:prt a=PP at*
 clear hpp
 generalize hn:a.length=n at*
 go_enter Tryz.func181,Tryz.ntmps181
 go_wp2_with fail
 go_loopw [3,11] (λs i wr=>∃k:Nat,i=.int .i64 k/\k<=n/\s=.int .i64 (TT k:Int)/\w=wr) (λ_ i _=>n-(intOf i).toNat)
 case atStart=>exact⟨0,rfl,jb,by rw[HT0.out];rfl,rfl⟩
 case round=>
  obtain⟨k,rfl,hk,rfl,rfl⟩:=hrel;by_cases hlt:k<n
  .obtain⟨b,off,rfl,-,-,-⟩:=HS.out.get jb;have c0:=HS.out.cellAt rfl (Below.refl _ _) (i:=k) (j:=0) hlt jb;obtain⟨v2,hG,hR⟩:=HQ.out k hlt;obtain⟨a2,cap2,rfl,-,-⟩:=hR.plain.form;rw[hG,fT,cE]at c0;have c1:w.cell? ⟨b,off+k,none⟩=some (Value.slice a2 (ix a k).length cap2):=c0;have e1:=HTS.out k jb;have e2:=HTL.out (k+1);have hb9:TT k+(ix a k).length<=1000000:=jb;have HE1:=jx e1;have i1:(0:Int)<=(k:Int):=jb;have i2:(k:Int)<(n:Int):=jb;clear c0 hG hR HTS HTL HPS HTA HPA;generalize (ix a k).length=m at*;clear e1 e2;generalize ht1:TT (k+1)=t1 at*;have HT1:=jx ht1;clear ht1;generalize TT k=t0 at*;have e3:IntKind.i64.wrap ((t0:Int)+(m:Int))=(t0:Int)+(m:Int):=IntWalk.i64_in _ jb;have e6:decide ((t0:Int)+(m:Int)<0)=false:=az jb;go_wp2;go_roundw
   case rel=>exact⟨k+1,by go_num,jb,by rw[HT1.out,HE1.out];simp,by simp⟩
   case measure=>grind[intOf]
  .obtain rfl:k=n:=jb;have hnl:decide ((k:Int)<(k:Int))=false:=by simp
   have hle:=HTL.out k;have HGR:=jx (aer (TT k) w jb);go_wp2_with fail;refine HGR.out.mono ?_;rintro e w1 ⟨v1,rfl,ho1,hb1,hz1⟩;have HO1:=jx (ho1.congr (G:=PP 0) λi hi=>jb);have HB1:=jx hb1;have HZ1:=jx hz1;clear ho1 hb1 hz1 HGR;go_wp2_with fail;go_loopw [6,27] (λv i W=>∃q:Nat,i=.int .i64 q/\q<=k/\lJ W w.heap.size 126 5 v (TT q) (PP q)/\Below w.heap.size w W/\(TT k=0->v=.slice none 0 0)) (λ_ i _=>k-(intOf i).toNat)
   case atStart=>exact⟨0,rfl,jb,by rw[HT0.out];exact HO1.out,HB1.out,HZ1.out⟩
   case round=>
    obtain⟨q,rfl,hq,hown,hbel,hzz⟩:=hrel;have HB:=jx hbel;have hsz:=hbel.size;by_cases hlt:q<k
    .obtain⟨b,off,rfl,-,-,-⟩:=HS.out.get jb;have c0:=HS.out.cellAt rfl HB.out (i:=q) (j:=0) hlt jb;obtain⟨v2,hG,hR⟩:=HQ.out q hlt;rw[hG,fT,cE]at c0;have e1:=HTS.out q jb;have e2:=HTL.out (q+1);have hap:=aad (t:=127) Tryz.underlying127 Xf jb hown (hR.on hbel).plain (λi hi u hu=>amg _ u hu) jb jb hsz;obtain⟨a2,cap2,rfl,-,-⟩:=hR.plain.form;obtain⟨v9,w9,hr9,ho9,hb9,hz9⟩:=hap;have c1:wr.cell? ⟨b,off+q,none⟩=some (Value.slice a2 (ix a q).length cap2):=c0;have HO9:=jx (show lJ w9 w.heap.size 126 5 v9 (TT (q+1)) (PP (q+1))from by rw[e1];exact ho9.congr λi hi=>HPS.out q jb i);have HB9:=jx (HB.out.trans hb9);have HZ9:=jx (show TT k=0->v9=.slice none 0 0 from λh=>hz9 (hzz h) (by have:=HTM.out (q+1) k jb;omega));have i1:(0:Int)<=(q:Int):=jb;have i2:(q:Int)<(k:Int):=jb;clear c0 hG hR ho9 hb9 hown hbel hzz hz9 HTS HTL HPS HTA HPA HT0;go_wp2_with (at_builtin;refine Lib.wpList_append_run _ rfl _ _ _ _ rfl _ _ rfl rfl _ _ (hr9 _) ?_)
     go_roundw
     case rel=>exact⟨q+1,by go_num,jb,HO9.out,HB9.out,HZ9.out⟩
     case measure=>simp[intOf];omega
    .obtain rfl:q=k:=jb;have hnl:decide ((q:Int)<(q:Int))=false:=by simp
     have HZ:=jx (show N=0->u6=.slice none 0 0 from λh=>hzz (by rw[HTA.out];exact h));have HR:=jx (show lJ wr w.heap.size 126 5 u6 N FF from by rw[<-HTA.out];exact hown.congr λi _=>HPA.out i);go_wp2;go_ret;exact⟨_,rfl,HR.out,HB.out,HZ.out⟩
def Xg(p:Nat->Prop)(v:Value)(a:iy)(w:World)(hA:xH w p v a)(la:a.length<=140737488351232)(lf:a.flatten.length<=1000000):
  Calls Tryz.prog 181 #[v] w (axi w 126 a.flatten.length 5 λi=>(ix a.flatten i).c):=
 (H9 p v a w hA la lf).mono λ_ _ ⟨u,h1,h2,h3,_⟩=>⟨u,h1,h2,h3⟩
end Go.Proofs.Ins
