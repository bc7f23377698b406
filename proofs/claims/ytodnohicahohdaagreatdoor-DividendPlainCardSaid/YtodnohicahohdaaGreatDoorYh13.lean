import Derived.Test.YtodnohicahohdaaGreatDoorYh12
import Derived.Deep.Upon
import Derived.Lib.AppendZerosOnto
import Derived.Lib.AppendZeros
import Derived.Shelf.Sort.Plain
import Derived.Shelf.Slices.CompactI
import Derived.Shelf.Slices.In.SortNone
import Derived.Lib.SlicesCompact
set_option linter.all false
set_option maxRecDepth 100000
set_option maxHeartbeats 8000000
namespace Go.Proofs.Xe
open Go Go.RowKit Go.ChangeShapes Go.WideShapes Go.ChangeAt Go.Deep Go.Proofs.Ins Go.Proofs.YtodnohicahohdaaGreatDoor
section
variable {H:Type} {enc:TypeId×Value→H} {W:World} {sp:Nat→Bool} {held:Bool}
def WJ{P:Program}{t e:TypeId}(ht:P.underlying t=some (.slice e)){fuel:Nat}{a:Option Addr}{n c:Nat}{x:DataW H×List MemPlace}(h:DataW.trod enc P W 0 sp held fuel t [.slice a n c]=some x):((a=none/\n=0/\c=0)\/∃y,a=some y)/\n<=c/\c<=9223372036854775807:=by
 rcases open_slice ht h with⟨e1,-⟩|⟨a',len,cap,m,k,D,Pl,e1,-,hl,hm,-⟩
 .grind
 grind[maxLen]
def akt{fuel:Nat}{cs:List Value}{x:DataW H×List MemPlace}(h:DataW.trod enc Tryz.prog W 0 sp held fuel 22 cs=some x)(hL:Light Tryz.prog 22 x.1):
  ∃v n,∃M:Nat->Nat,cs=[v]/\n<=140737488351232/\HL (St.of W).h 1 (zX W.heap.size v) n (λi=>[.int .u16 (.ofNat (M i))])/\∀i,i<n->M i<=65535:=by
 obtain⟨a,n,c,M,rfl,hn,hs,hM⟩:=aiY h hL
 obtain⟨h1,h2,h3⟩:=WJ Tryz.underlying22 h
 exact⟨_,n,M,rfl,hn,HL.of hs h1 h2 h3 jj (λ_ _=>rfl) (λi _ v hv=>by simp only[c16,cU]at hv;rw[hv];rfl),hM⟩
def WL{fuel:Nat}{cs:List Value}{x:DataW H×List MemPlace}(h:DataW.trod enc Tryz.prog W 0 sp held fuel 75 cs=some x):
  ∃m:Nat->Nat,cs=[.int .u16 (m 0:Int),.int .u16 (m 1:Int),.int .u16 (m 2:Int),.int .u16 (m 3:Int)]/\∀j,m j<=65535:=by
 obtain⟨xs,n,rfl,rfl,hl,hx,hf⟩:=DataW.trod_array Tryz.underlying75 h
 have hc:Tryz.prog.cellsOf 75=4:=by kernel_rfl
 have hc0:Tryz.prog.cellsOf 50=1:=by kernel_rfl
 simp only[hc0,eN]at hf
 rw[hc]at hl
 match cs,hl,xs,hx with
 |[c0,c1,c2,c3],_,[x0,x1,x2,x3],_=>
  obtain⟨m0,e0,l0⟩:=rY (show DataW.trod enc Tryz.prog W 0 sp held n 50 [c0]=some x0 from hf 0 jb)
  obtain⟨m1,e1,l1⟩:=rY (show DataW.trod enc Tryz.prog W 0 sp held n 50 [c1]=some x1 from hf 1 jb)
  obtain⟨m2,e2,l2⟩:=rY (show DataW.trod enc Tryz.prog W 0 sp held n 50 [c2]=some x2 from hf 2 jb)
  obtain⟨m3,e3,l3⟩:=rY (show DataW.trod enc Tryz.prog W 0 sp held n 50 [c3]=some x3 from hf 3 jb)
  simp at e0 e1 e2 e3
  subst e0 e1 e2 e3
  exact⟨λj=>if j=0 then m0 else if j=1 then m1 else if j=2 then m2 else m3,rfl,λj=>by grind⟩
def avd{fuel:Nat}{cs:List Value}{x:DataW H×List MemPlace}(h:DataW.trod enc Tryz.prog W 0 sp held fuel 23 cs=some x)(hL:Light Tryz.prog 23 x.1):
  ∃v n,∃L:Nat->Nat->Nat,cs=[v]/\n<=140737488351232/\HL (St.of W).h 4 (zX W.heap.size v) n (λi=>[.int .u16 (.ofNat (L i 0)),.int .u16 (.ofNat (L i 1)),.int .u16 (.ofNat (L i 2)),.int .u16 (.ofNat (L i 3))])/\∀i j,i<n->L i j<=65535:=by
 obtain⟨a,n,c,C,rfl,hn,hs0,hx⟩:=KF (k:=4) Tryz.underlying23 (by kernel_rfl) jb (cI (by kernel_rfl)) h hL
 obtain⟨L,hLL⟩:=choose_lt (α:=Nat->Nat) (p:=λi m=>C i=[.int .u16 (m 0:Int),.int .u16 (m 1:Int),.int .u16 (m 2:Int),.int .u16 (m 3:Int)]/\∀j,m j<=65535) (λi hi=>by obtain⟨_,n,y,h1,h2⟩:=hx i hi;exact WL h1)
 have hs:=hs0.congr λi hi=>(hLL i hi).1
 obtain⟨h1,h2,h3⟩:=WJ Tryz.underlying23 h
 exact⟨_,n,L,rfl,hn,HL.of hs h1 h2 h3 jj (λ_ _=>rfl) (λi _ v hv=>by simp only[bw,List.not_mem_nil,or_false]at hv;rcases hv with rfl|rfl|rfl|rfl<;>rfl),λi j hi=>(hLL i hi).2 j⟩
def WM{fuel:Nat}{cs:List Value}{x:DataW H×List MemPlace}(h:DataW.trod enc Tryz.prog W 0 sp held fuel 78 cs=some x):
  ∃m:Nat->Nat,cs=[.int .u16 (m 0:Int),.int .u16 (m 1:Int),.int .u16 (m 2:Int)]/\∀j,m j<=65535:=by
 obtain⟨xs,n,rfl,rfl,hl,hx,hf⟩:=DataW.trod_array Tryz.underlying78 h
 have hc:Tryz.prog.cellsOf 78=3:=by kernel_rfl
 have hc0:Tryz.prog.cellsOf 50=1:=by kernel_rfl
 simp only[hc0,eN]at hf
 rw[hc]at hl
 match cs,hl,xs,hx with
 |[c0,c1,c2],_,[x0,x1,x2],_=>
  obtain⟨m0,e0,l0⟩:=rY (show DataW.trod enc Tryz.prog W 0 sp held n 50 [c0]=some x0 from hf 0 jb)
  obtain⟨m1,e1,l1⟩:=rY (show DataW.trod enc Tryz.prog W 0 sp held n 50 [c1]=some x1 from hf 1 jb)
  obtain⟨m2,e2,l2⟩:=rY (show DataW.trod enc Tryz.prog W 0 sp held n 50 [c2]=some x2 from hf 2 jb)
  simp at e0 e1 e2
  subst e0 e1 e2
  exact⟨λj=>if j=0 then m0 else if j=1 then m1 else m2,rfl,λj=>by grind⟩
def aep{fuel:Nat}{cs:List Value}{x:DataW H×List MemPlace}(h:DataW.trod enc Tryz.prog W 0 sp held fuel 24 cs=some x)(hL:Light Tryz.prog 24 x.1):
  ∃v n,∃L:Nat->Nat->Nat,cs=[v]/\n<=140737488351232/\HL (St.of W).h 3 (zX W.heap.size v) n (λi=>[.int .u16 (.ofNat (L i 0)),.int .u16 (.ofNat (L i 1)),.int .u16 (.ofNat (L i 2))])/\∀i j,i<n->L i j<=65535:=by
 obtain⟨a,n,c,C,rfl,hn,hs0,hx⟩:=KF (k:=3) Tryz.underlying24 (by kernel_rfl) jb (cI (by kernel_rfl)) h hL
 obtain⟨L,hLL⟩:=choose_lt (α:=Nat->Nat) (p:=λi m=>C i=[.int .u16 (m 0:Int),.int .u16 (m 1:Int),.int .u16 (m 2:Int)]/\∀j,m j<=65535) (λi hi=>by obtain⟨_,n,y,h1,h2⟩:=hx i hi;exact WM h1)
 have hs:=hs0.congr λi hi=>(hLL i hi).1
 obtain⟨h1,h2,h3⟩:=WJ Tryz.underlying24 h
 exact⟨_,n,L,rfl,hn,HL.of hs h1 h2 h3 jj (λ_ _=>rfl) (λi _ v hv=>by simp only[bw,List.not_mem_nil,or_false]at hv;rcases hv with rfl|rfl|rfl<;>rfl),λi j hi=>(hLL i hi).2 j⟩
end
end Go.Proofs.Xe
namespace Go.Proofs.Ins
def Gn(f:Nat->Int):Nat->Int
 |0=>0
 |n+1=>if Gn f n=0 then f n else Gn f n
def qX{f:Nat->Int}:∀{n:Nat},(∀i,i<n->f i=0)->Gn f n=0
 |0,_=>rfl
 |n+1,h=>by unfold Gn;rw[ab (qX λi hi=>h i jb)];exact h n jb
theorem gI{f:Nat->Int}:∀{n:Nat},Gn f n=0->∀i,i<n->f i=0
 |0,_,i,hi=>jb
 |n+1,h,i,hi=>by
  unfold Gn at h;by_cases e:Gn f n=0
  .rw[ab e]at h;by_cases e2:i=n
   .grind
   .exact gI e i jb
  omega
def UC{f g:Nat->Int}:∀{n:Nat},(∀i,i<n->f i=g i)->Gn f n=Gn g n
 |0,_=>rfl
 |n+1,h=>by unfold Gn;rw[UC (n:=n) λi hi=>h i jb,h n jb]
def WO(x:C5):Int:=if x.h< -1\/8<=x.h then 19 else if x.r<0\/7<x.r then 1 else if sg x.a.q<0 then 7 else 0
def memT(t:Js)(c:Int):Bool:=t.any λp=>p.k==c
def Qm(a:fD)(c:Int):Bool:=a.any λt=>memT t c
def BH(l:List fD)(k:Nat)(c:Int):Bool:=(l.take k).any λa=>Qm a c
def acy(n:Nat)(tk:Int->Bool)(p:yQ):Int:=
 if p.k< -1\/(n:Int)<=p.k then 1 else if p.k=-1/\p.b=false then 21 else if p.b=true/\sg p.a.q<0 then 7 else if p.k≠-1/\tk p.k=true then 20 else 0
def aku(a:fD):Bool:=decide (24<a.length)||a.any λt=>decide (24<t.length)
def ave(n:Nat)(tk:Int->Bool)(t:Js):Int:=Gn (λi=>acy n tk (ix t i)) t.length
def Zp(n:Nat)(tk:Int->Bool)(a:fD):Int:=if aku a=true then 2 else Gn (λi=>ave n tk (ix a i)) a.length
def EF(e:yg):Int:=
 if 24<e.c.length\/12<e.a.length then 2 else if sg e.m.q<0 then 7
 else if Gn (λi=>WO (ix e.c i)) e.c.length≠0 then Gn (λi=>WO (ix e.c i)) e.c.length
 else Gn (λk=>Zp e.c.length (BH e.a k) (ix e.a k)) e.a.length
def apu{t:Js}{c:Int}:memT t c=true↔∃i,i<t.length/\(ix t i).k=c:=by
 unfold memT;rw[dj];constructor
 .rintro⟨x,hx,h⟩;obtain⟨i,hi,rfl⟩:=aD hx;exact⟨i,hi,by grind[dY]⟩
 grind[l7]
def apv{a:fD}{c:Int}:Qm a c=true↔∃i,i<a.length/\memT (ix a i) c=true:=by
 unfold Qm;rw[dj];constructor
 .rintro⟨x,hx,h⟩;obtain⟨i,hi,rfl⟩:=aD hx;exact⟨i,hi,by grind[dY]⟩
 grind[l7]
def ag7{l:List fD}{k:Nat}(h:k<l.length)(c:Int):BH l (k+1) c=(BH l k c||Qm (ix l k) c):=by grind[BH,bJ]
def EG{a:fD}:aku a=false↔a.length<=24/\∀i,i<a.length->(ix a i).length<=24:=by grind[Go.Proofs.Ins.aku,List.getElem_of_mem,Go.Proofs.Ins.dY]
def iy(l:List oM)(d k:Nat):List Lg:=((l.take d).flatMap λx=>x.l)++(ix l d).l.take k
def EH(s:List Lg)(x:Lg):Bool:=s.any λy=>y.e==x.e&&y.k==x.k
def holdL(l:List yg)(x:Lg):Int:=(ix (ix l x.e.toNat).c x.k.toNat).h
def Zq(g:dV)(d k:Nat):Int:=
 let x:=ix (ix g.d d).l k
 if x.e<0\/(g.e.length:Int)<=x.e\/x.k<0\/((ix g.e x.e.toNat).c.length:Int)<=x.k then 1
 else if EH (iy g.d d k) x=true then 20
 else if holdL g.e x≠holdL g.e (ix (ix g.d d).l 0)then 19 else 0
def NC(g:dV)(d:Nat):Int:=
 if 8<(ix g.d d).l.length then 2 else if sg (ix g.d d).w.q<0 then 7 else Gn (Zq g d) (ix g.d d).l.length
def WQ(g:dV)(i k:Nat):Int:=if(g.e.length:Int)<=(ix (ix g.e i).c k).h\/(ix (ix g.e i).c k).h=(i:Int)then 19 else 0
def Jt(g:dV):Int:=
 if 8<g.e.length\/16<g.d.length then 2
 else if Gn (λi=>EF (ix g.e i)) g.e.length≠0 then Gn (λi=>EF (ix g.e i)) g.e.length
 else if Gn (λi=>Gn (WQ g i) (ix g.e i).c.length) g.e.length≠0 then Gn (λi=>Gn (WQ g i) (ix g.e i).c.length) g.e.length
 else Gn (NC g) g.d.length
structure acz(k:Nat)(e:yg):Prop where
 m:e.m.fits k
 c:∀i,i<e.c.length->(ix e.c i).a.fits k
 a:∀i j l,i<e.a.length->j<(ix e.a i).length->l<(ix (ix e.a i) j).length->(ix (ix (ix e.a i) j) l).a.fits k
 lc:e.c.length<=140737488351232
 la:e.a.length<=140737488351232
 lt:∀i,i<e.a.length->(ix e.a i).length<=140737488351232
 lp:∀i j,i<e.a.length->j<(ix e.a i).length->(ix (ix e.a i) j).length<=140737488351232
structure CW(k:Nat)(g:dV):Prop where
 e:∀i,i<g.e.length->acz k (ix g.e i)
 w:∀i,i<g.d.length->(ix g.d i).w.fits k
 le:g.e.length<=140737488351232
 ld:g.d.length<=140737488351232
 ll:∀i,i<g.d.length->(ix g.d i).l.length<=140737488351232
end Go.Proofs.Ins
namespace Go.Proofs.Xe
open Go.RowKit Go.Proofs.Ins
def aZ(p:Nat->Prop)(h:Tr Bk)(e:Nat)(v:B)(n:Nat)(G:Nat->List B):Prop:=
 (n=0/\v=.aQ)\/∃b o c,v=.sl b o n c/\(0<n->p b)/\∀i,i<n->ld h b (o+i*e) e true=some (.agg (G i))
section
variable {p q:Nat→Prop} {h h' : Tr Bk} {e n:Nat} {v:B} {G:Nat→List B}
def aZ.hl(hl:aZ p h e v n G):HL h e v n G:=by
 rcases hl with h|⟨b,o,c,h1,h2,h3⟩
 .exact .inl h
 .exact .inr ⟨b,o,c,h1,h3⟩
def aZ.len(hl:aZ p h e v n G):lenV (.c v)=some (jN n):=hl.hl.len
def aZ.kn(hl:aZ p h e v n G):v.kn=true:=hl.hl.kn
def aZ.pos(hl:aZ p h e v n G)(hn:0<n):∃b o c,v=.sl b o n c/\p b/\∀i,i<n->ld h b (o+i*e) e true=some (.agg (G i)):=by
 rcases hl with⟨rfl,-⟩|⟨b,o,c,h1,h2,h3⟩
 .omega
 grind
def aZ.keep(hl:aZ p h e v n G)(hk:∀b,p b->h' b=h b)(hp:∀b,p b->q b):aZ q h' e v n G:=by
 rcases hl with h1|⟨b,o,c,h1,h2,h3⟩
 .exact .inl h1
 .refine .inr ⟨b,o,c,h1,λh=>hp _ (h2 h),λi hi=>?_⟩;grind[ld]
def aZ.congr{G':Nat->List B}(hl:aZ p h e v n G)(hg:∀i,i<n->G i=G' i):aZ p h e v n G':=by
 rcases hl with h1|⟨b,o,c,h1,h2,h3⟩
 .exact .inl h1
 .exact .inr ⟨b,o,c,h1,h2,λi hi=>by grind⟩
theorem aZ.uniq{n':Nat}{G':Nat->List B}{p':Nat->Prop}(hl:aZ p h e v n G)(hl':aZ p' h e v n' G'):n=n'/\∀i,i<n->G i=G' i:=by
 rcases hl with⟨rfl,rfl⟩|⟨b,o,c,rfl,h2,h3⟩
 .rcases hl' with⟨rfl,-⟩|⟨b,o,c,h1,-⟩
  .simp
  grind
 .rcases hl' with⟨-,h1⟩|⟨b',o',c',h1,h2',h3'⟩
  .cases h1
  grind
end
def Ym(x:C5):List B:=[.int .i64 x.h,.int .i64 x.r,.bool x.a.n,.str x.a.s,.str x.a.d]
def AU(x:yQ):List B:=[.int .i64 x.k,.bool x.b,.bool x.a.n,.str x.a.s,.str x.a.d]
def Oh(x:Ins.Lg):List B:=[.int .i64 x.e,.int .i64 x.k]
def lT(p:Nat->Prop)(h:Tr Bk)(v:B)(l:List C5):Prop:=aZ p h 5 v l.length λi=>Ym (ix l i)
def xw(p:Nat->Prop)(h:Tr Bk)(v:B)(l:List yQ):Prop:=aZ p h 5 v l.length λi=>AU (ix l i)
def yh(p:Nat->Prop)(h:Tr Bk)(v:B)(l:List Ins.Lg):Prop:=aZ p h 2 v l.length λi=>Oh (ix l i)
def dQ(p:Nat->Prop)(h:Tr Bk)(v:B)(l:fD):Prop:=∃T:Nat->B,aZ p h 1 v l.length (λi=>[T i])/\∀i,i<l.length->xw p h (T i) (ix l i)
def iO(p:Nat->Prop)(h:Tr Bk)(v:B)(l:List fD):Prop:=∃T:Nat->B,aZ p h 1 v l.length (λi=>[T i])/\∀i,i<l.length->dQ p h (T i) (ix l i)
def EI(p:Nat->Prop)(h:Tr Bk)(v:B)(l:List yg):Prop:=∃C A:Nat->B,aZ p h 5 v l.length (λi=>[.bool (ix l i).m.n,.str (ix l i).m.s,.str (ix l i).m.d,C i,A i])/\∀i,i<l.length->lT p h (C i) (ix l i).c/\iO p h (A i) (ix l i).a
def jF(p:Nat->Prop)(h:Tr Bk)(v:B)(l:List oM):Prop:=∃L:Nat->B,aZ p h 4 v l.length (λi=>[.bool (ix l i).w.n,.str (ix l i).w.s,.str (ix l i).w.d,L i])/\∀i,i<l.length->yh p h (L i) (ix l i).l
structure jY(p:Nat->Prop)(h:Tr Bk)(ev dv:B)(g:dV):Prop where
 e:EI p h ev g.e
 d:jF p h dv g.d
section
variable {p q p' : Nat→Prop} {h h' : Tr Bk} {v ev dv:B}
def dQ.keep{l:fD}(hl:dQ p h v l)(hk:∀b,p b->h' b=h b)(hp:∀b,p b->q b):dQ q h' v l:=by obtain⟨T,h1,h2⟩:=hl;exact⟨T,h1.keep hk hp,λi hi=>(h2 i hi).keep hk hp⟩
def iO.keep{l:List fD}(hl:iO p h v l)(hk:∀b,p b->h' b=h b)(hp:∀b,p b->q b):iO q h' v l:=by obtain⟨T,h1,h2⟩:=hl;exact⟨T,h1.keep hk hp,λi hi=>(h2 i hi).keep hk hp⟩
def EI.keep{l:List yg}(hl:EI p h v l)(hk:∀b,p b->h' b=h b)(hp:∀b,p b->q b):EI q h' v l:=by obtain⟨C,A,h1,h2⟩:=hl;exact⟨C,A,h1.keep hk hp,λi hi=>⟨(h2 i hi).1.keep hk hp,(h2 i hi).2.keep hk hp⟩⟩
def jF.keep{l:List oM}(hl:jF p h v l)(hk:∀b,p b->h' b=h b)(hp:∀b,p b->q b):jF q h' v l:=by obtain⟨L,h1,h2⟩:=hl;exact⟨L,h1.keep hk hp,λi hi=>(h2 i hi).keep hk hp⟩
def jY.keep{g:dV}(hg:jY p h ev dv g)(hk:∀b,p b->h' b=h b)(hp:∀b,p b->q b):jY q h' ev dv g:=⟨hg.e.keep hk hp,hg.d.keep hk hp⟩
def Zr{α:Type}[Inhabited α]{l l':List α}(hn:l.length=l'.length)(h:∀i,i<l.length->ix l i=ix l' i):l=l':=by grind[List.ext_getElem,dY]
theorem xw.uniq{l l':List yQ}(hl:xw p h v l)(hl':xw p' h v l'):l=l':=by obtain⟨h1,h2⟩:=aZ.uniq hl hl';refine Zr h1 λi hi=>?_;have e:=h2 i hi;generalize ix l i=x at*;generalize ix l' i=y at*;obtain⟨x1,x2,x3,x4,x5⟩:=x;simp_all[AU]
theorem dQ.uniq{l l':fD}(hl:dQ p h v l)(hl':dQ p' h v l'):l=l':=by obtain⟨T,h1,h2⟩:=hl;obtain⟨T',h1',h2'⟩:=hl';obtain⟨e1,e2⟩:=h1.uniq h1';refine Zr e1 λi hi=>?_;have e:=e2 i hi;simp only[List.cons.injEq,and_true]at e;have a:=h2 i hi;rw[e]at a;exact a.uniq (h2' i jb)
end
section
variable {N:Nat} {w0 w:World} {φ:Ph} {J:St} {p:Nat→Prop}
def choose_lt'{α:Type}[Inhabited α]{n:Nat}{P:Nat->α->Prop}(h:∀i,i<n->∃a,P i a):∃f:Nat->α,∀i,i<n->P i (f i):=
 ⟨λi=>if hi:i<n then Classical.choose (h i hi)else default,λi hi=>by grind⟩
def InW(w:World)(b:Nat):Prop:=b<w.heap.size
def ay5(hR:Rel N w0 φ J w){b o e:Nat}{c:List B}{P:Nat×Nat}(hp:φ b=some P)(hl:ld J.h b o e true=some (.agg c)):∃xs,lX φ c xs/\xs.length=e/\∀j,j<e->w.cell? ⟨P.1,o+j,none⟩=xs[j]?:=by
 unfold ld at hl;cases hk:J.h b with
 |none=>grind
 |some k=>
  rw[hk]at hl
  dsimp only at hl
  cases hr:k.rd with
  |false=>grind
  |true=>
   rw[hr]at hl
   simp only[bB]at hl
   unfold zT at hl
   dsimp only at hl
   cases hx:(Nat.beq ((k.cells.drop o).take e).length e&&((k.cells.drop o).take e).all B.kn)with
   |false=>grind
   |true=>
    rw[hx]at hl
    cases hl
    rw[af]at hx
    have hle:=aq hx.1
    obtain⟨xs,h1,h2⟩:=hR.reads (k:=k) hk hr hp ((k.cells.drop o).take e) o (λj x hj=>by grind) hx.2
    have hlx:xs.length=e:=by rw[<-h1.length,hle]
    grind
def aZ.un(hR:Rel N w0 φ J w){e n:Nat}{v:B}{G:Nat->List B}{cv:Value}(hl:aZ p J.h e v n G)(hv:RB φ v cv):
  ∃F:Nat->List Value,Sl w (InW w) e cv n F/\∀i,i<n->lX φ (G i) (F i):=by
 rcases hl with⟨rfl,rfl⟩|⟨b,o,c,rfl,-,h3⟩
 .have:cv=.slice none 0 0:=hv
  simp_all[Sl.nil]
 .rcases hv with⟨P,K,hp,rfl,hnK,hK,-⟩|⟨rfl,rfl,a,K,rfl,hK⟩
  .obtain⟨F,hF⟩:=choose_lt' (n:=n) (P:=λi (xs:List Value)=>lX φ (G i) xs/\xs.length=e/\∀j,j<e->w.cell? ⟨P.1,o+i*e+j,none⟩=xs[j]?) (λi hi=>ay5 hR hp (h3 i hi))
   refine⟨F,⟨_,K,rfl,hnK,hK,?_,λi hi=>(hF i hi).2.1⟩,λi hi=>(hF i hi).1⟩
   exact .inr ⟨_,_,rfl,hR.lo _ _ hp,hR.lo _ _ hp,λi j hi hj=>(hF i hi).2.2 j hj⟩
  .exact⟨λ_=>[],⟨_,K,rfl,aR _,hK,.inl rfl,λi hi=>jb⟩,λi hi=>jb⟩
def lX.one{x:B}{r:List Value}(h:lX φ [x] r):∃v,r=[v]/\RB φ x v:=by
 match r,h with
 |[v],h=>exact⟨v,rfl,h.1⟩
def xw.un(hR:Rel N w0 φ J w){l:List yQ}{v:B}{cv:Value}(hl:xw p J.h v l)(hv:RB φ v cv):EC w (InW w) cv l:=by
 obtain⟨F,h1,h2⟩:=aZ.un hR hl hv;refine⟨F,h1,λi hi=>?_⟩;have:=h2 i hi;unfold AU at this;match F i,this with
 |[a,b,c,d,e],⟨ha,hb,hc,hd,he,_⟩=>
  have ha:a=_:=ha
  have hb:b=_:=hb
  have hc:c=_:=hc
  have hd:d=_:=hd
  have he:e=_:=he
  subst ha hb hc hd he
  rfl
def dQ.un(hR:Rel N w0 φ J w){l:fD}{v:B}{cv:Value}(hl:dQ p J.h v l)(hv:RB φ v cv):yR w (InW w) cv l:=by obtain⟨T,h0,h3⟩:=hl;obtain⟨F,h1,h2⟩:=aZ.un hR h0 hv;refine⟨F,h1,λi hi=>?_⟩;obtain⟨u,e,hu⟩:=(h2 i hi).one;exact⟨u,e,(h3 i hi).un hR hu⟩
end
noncomputable section
end
end Go.Proofs.Xe
namespace Go.Proofs.Ins
open Go.RowKit
def aBK:Value->Nat
 |.slice _ n _=>n
 |_=>0
def acA{P:Program}{w:World}{base:Nat}{t T:TypeId}{sz bytes:Nat}{v x:Value}{n m:Nat}{F G:Nat->List Value}{p:Nat->Prop}
  (h1:P.underlying t=some (.slice T)) (h2:(P.info? T).map (λi=>(i.zero.map (λz=>z.cells.size),i.size,i.bytes))=some (some sz,sz,bytes)) (hsz:0<sz)
  (hown:ng w base T sz v n F) (hx:Sl w p sz x m G) (h1c:∀i,i<m->∀u∈G i,u.oneCell'=true) (hn:(n+m)*bytes<=140737488355328) (hn2:n+m<=4294967296) (hbase:base<=w.heap.size):
  ∃v' w',(∀ty,(Builtin.append_ #[t,t] ty #[v,x]).run P w=.ok v' w')/\ng w' base T sz v' (n+m) (λj=>if j<n then F j else G (j-n))/\Below base w w'/\(v=.slice none 0 0->m=0->v'=.slice none 0 0):=by
 obtain⟨i,z,hi,hz,hzs,hsize,hbb⟩:=VN h2
 obtain⟨a,cap,rfl,hc1,hc2,hr,hGl⟩:=hx
 have hfin:∀v' w',w'.ownsRow base T sz v' (n+m) ((List.range n).flatMap F++(List.range m).flatMap G)->ng w' base T sz v' (n+m) (λj=>if j<n then F j else G (j-n)):=λv' w' ho=>by
  refine⟨?_,λi hi=>?_⟩
  .have e:(List.range n).flatMap F++(List.range m).flatMap G=(List.range (n+m)).flatMap (λj=>if j<n then F j else G (j-n)):=by
    rw[List.range_add,cH];congr 1
    .grind[List.map_congr_left]
    .rw[ie,List.flatMap_def,List.flatMap_def];grind[List.map_congr_left]
   grind
  .dsimp only;split
   .rename_i h;exact hown.2 i h
   grind
 cases a with
 |none=>
  have hm:m=0:=by grind
  subst hm
  obtain⟨sLen,sCap,bs,rfl,hle⟩:∃sLen sCap bs,v=.slice bs sLen sCap/\sLen<=sCap:=by
   rcases hown.form with⟨rfl,rfl⟩|⟨g,cap',rfl,_,hn',_⟩
   .grind
   grind
  refine⟨_,w,λty=>run_append_nothing w t t ty T i h1 hi bs sLen sCap hle (.slice none 0 cap) ?_,?_,Below.refl _ _,λh _=>h⟩
  .exact{ kind:=.inl ⟨T,h1⟩,len:=by simp[aBK,go_sem],newsLen:=by simp,cells:=run_firstCells_none w _ _ _ _,cellsD:=run_firstCells_none w.drew _ _ _ _,one:=by simp }
  .exact hown.congr λi hi=>by grind
 |some ad=>
  have hnews:∀j u,((List.range m).flatMap G)[j]?=some u->w.cell? (ad.add j)=some u:=λj u hj=>by
   rcases hr with h|⟨b,off,h,-,-,hrd⟩
   .subst h;simp at hj
   .simp only[aT]at h;subst h;have hjl:j<m*sz:=by
     have h9:=(List.getElem?_eq_some_iff.mp hj).1;have hlen:((List.range m).flatMap G).length=m*sz:=by
      clear hj h9 hn hn2 hrd h1c hc1 hfin;induction m with
      |zero=>simp
      |succ m ih=>
       rw[eV,cH,az,ih (λi hi=>hGl i jb)]
       simp[hGl m jb,cf]
     omega
    have hq:=hrd (j/sz) (j%sz) (dy (by rw[cW];exact hjl)) (de _ hsz);have hfl:=zZ m hGl (j/sz) (j%sz) (dy (by rw[cW];exact hjl)) (de _ hsz);have e:j/sz*sz+j%sz=j:=by rw[cW];exact df j sz
    rw[e]at hfl;rw[<-hfl,hj]at hq;have ea:(⟨b,off,none⟩:Addr).add j=⟨b,off+j/sz*sz+j%sz,none⟩:=by
     unfold Addr.add;split
     .rename_i h0;subst h0;simp
     .rw[Nat.add_assoc,e]
    rw[ea];exact hq
  have hlen:((List.range m).flatMap G).length=m*sz:=by
   clear hnews hn hn2 h1c hc1 hr hfin;induction m with
   |zero=>simp
   |succ m ih=>
    rw[eV,cH,az,ih (λi hi=>hGl i jb)]
    simp[hGl m jb,cf]
  have hone:∀u∈(List.range m).flatMap G,u.oneCell'=true:=λu hu=>by obtain⟨i,hi,hu⟩:=cr.mp hu;exact h1c i (by simpa using hi) u hu
  obtain⟨v',w',hr9,ho9,hg9,hnl⟩:=run_append_own (P:=P) w base t 0 T i z sz bytes h1 hi hz hsize hbb hzs hsz v n _ hown.1 ad m cap _ hlen hnews hone (by unfold maxLen;omega) hn hbase
  exact⟨v',w',λty=>hr9,hfin v' w' ho9,I8 hown.1 hg9 hbase,λa b=>hnl.mpr ⟨a,b⟩⟩
theorem avf{α:Type}[Inhabited α](l1 l2:List α)(j:Nat):ix (l1++l2) j=if j<l1.length then ix l1 j else ix l2 (j-l1.length):=by grind[ix]
def Zt:(Tryz.prog.info? 134).map (λi=>(i.zero.map (λz=>z.cells.size),i.size,i.bytes))=some (some 5,5,56):=by kernel_rfl
def akv:∃i z,Tryz.prog.info? 134=some i/\i.zero=some z/\z.cells.size=5/\i.size=5/\i.bytes=56:=VN Zt
def ay6(w:World)(T:TypeId)(n sz z:Nat)(F:Nat->List Value)(e:Ending)(w':World):Prop:=
 ∃v,e=.returned v/\ng w' w.heap.size T sz v n F/\Below w.heap.size w w'/\(z=0->v=.slice none 0 0)
def ag8(n:Nat)(w:World)(hn:n<=1000000):
  Calls Tryz.prog 301 #[.slice none 0 0,.int .i64 (n:Int)] w (ay6 w 134 0 5 n λ_=>[]):=by
 by_cases h0:n=0
 .subst h0
  go_enter Tryz.func301,Tryz.ntmps301
  go_wp2
  go_ret
  exact⟨_,rfl,ng.nil _ _ _ _ _,Below.refl _ _,λ_=>rfl⟩
 .obtain⟨i,z,hi,hz,hzs,hsize,hbb⟩:=akv
  have hrz:∀ty,(Builtin.append_ #[135,3] ty #[.slice none 0 0,.int .i64 (n:Int)]).run Tryz.prog w=
    .ok (.slice (some ⟨w.heap.size,0,none⟩) (0+n) (grownCap w (0+n) 0 134)) (w.drew.alloc (.cells ((#[]:Array Value)++Builtin.zeroCells z.cells n++Builtin.zeroCells z.cells (grownCap w (0+n) 0 134-(0+n))) 134)):=λty=>
   Lib.run_append_grow_zeros w 135 3 ty 134 i z .i64 .i64 Tryz.underlying135 Tryz.underlying3 hi hz none 0 0 [] (run_firstCells_none w.drew _ _ _ _) n jb jb jb jb
    kd (by grind[nextslicecap_zero])
  have hGn:0+n<=grownCap w (0+n) 0 134:=grownCap_ge w _ _ _
  have hGm:=grownCap_le_maxLen w (0+n) 0 134 (by unfold maxLen;omega)
  have hown:ng (w.drew.alloc (.cells ((#[]:Array Value)++Builtin.zeroCells z.cells n++Builtin.zeroCells z.cells (grownCap w (0+n) 0 134-(0+n))) 134)) w.heap.size 134 5 (.slice (some ⟨w.heap.size,0,none⟩) 0 (grownCap w (0+n) 0 134)) 0 (λ_=>[]):=by refine⟨⟨by simp,.inr ⟨w.heap.size,_,_,rfl,jp,heap_alloc_new w.drew _,jb,hGm,?_,by simp⟩⟩,λi hi=>jb⟩;grind[size_zeroCells]
  have HO:=jx hown
  have hz5:(w.drew.alloc (.cells ((#[]:Array Value)++Builtin.zeroCells z.cells n++Builtin.zeroCells z.cells (grownCap w (0+n) 0 134-(0+n))) 134)).heap.size=w.heap.size+1:=by simp
  have HB:=jx (show Below w.heap.size w (w.drew.alloc (.cells ((#[]:Array Value)++Builtin.zeroCells z.cells n++Builtin.zeroCells z.cells (grownCap w (0+n) 0 134-(0+n))) 134))from(Below.refl _ _).drew.alloc kc _)
  clear hown hz5
  generalize grownCap w (0+n) 0 134=G at*
  generalize hW:w.drew.alloc (.cells ((#[]:Array Value)++Builtin.zeroCells z.cells n++Builtin.zeroCells z.cells (G-(0+n))) 134)=W at*
  have h1:(0:Int)<(n:Int):=jb
  unfold maxLen at hGm
  clear hW hi hz hzs hsize hbb
  go_enter Tryz.func301,Tryz.ntmps301
  go_wp2_with (at_builtin;refine Lib.wpList_append_run _ rfl _ _ _ _ rfl _ _ rfl rfl _ _ (hrz _) ?_)
  go_ret
  exact⟨_,rfl,HO.out,HB.out,λh=>absurd h h0⟩
def tot(a:fD)(k:Nat):Nat:=(a.take k).flatten.length
def akw(a:fD):tot a 0=0:=by rfl
def akx{a:fD}{k:Nat}(h:k<a.length):tot a (k+1)=tot a k+(ix a k).length:=by grind[tot,bJ]
def Qn{a:fD}{k:Nat}:tot a k<=a.flatten.length:=by grind[tot,List.take_append_drop]
def apw(a:fD):tot a a.length=a.flatten.length:=by grind[tot]
def aky{a:fD}{i j:Nat}(h:i<=j):tot a i<=tot a j:=by grind[tot,Nat.exists_eq_add_of_le]
def prt(a:fD)(k j:Nat):List Value:=(ix (a.take k).flatten j).c
def akz{a:fD}{k:Nat}(h:k<a.length)(j:Nat):(if j<tot a k then prt a k j else(ix (ix a k) (j-tot a k)).c)=prt a (k+1) j:=by grind[prt,tot,bJ,avf]
def apx(a:fD)(j:Nat):prt a a.length j=(ix a.flatten j).c:=by grind[prt]
def apy(x:yQ):∀u∈x.c,u.oneCell'=true:=by grind[yQ.c,Value.oneCell']
def Ju(p:Nat->Prop)(v:Value)(a:fD)(w:World)(hA:yR w p v a)(la:a.length<=140737488351232)(lf:a.flatten.length<=1000000):
  Calls Tryz.prog 257 #[v] w (ay6 w 134 a.flatten.length 5 a.flatten.length λi=>(ix a.flatten i).c):=by
 obtain⟨G,hS,hQ⟩:=hA
 obtain⟨aa,cap,rfl,-,-⟩:=hS.form
 have HS:=jx hS
 have HQ:=jx hQ
 have HTS:=jx (λk h=>akx (a:=a) (k:=k) h)
 have HTL:=jx (λk=>Qn (a:=a) (k:=k))
 have HT0:=jx (akw a)
 have HTM:=jx (λi j (h:i<=j)=>aky (a:=a) h)
 have HPS:=jx (λk h=>akz (a:=a) (k:=k) h)
 have HTA:=jx (apw a)
 have HPA:=jx (apx a)
 clear hS hQ
 generalize hfl:a.flatten.length=N at*
 generalize hff:(λi=>(ix a.flatten i).c)=FF at*
 have HPA:=jx (show∀j,prt a a.length j=FF j from λj=>by rw[HPA.out,<-hff])
 clear hff hfl
 generalize tot a=TT at*
 generalize hpp:prt a=PP at*
 clear hpp
 generalize hn:a.length=n at*
 go_enter Tryz.func257,Tryz.ntmps257
 go_wp2_with fail
 go_loopw [3,11] (λs i wr=>∃k:Nat,i=.int .i64 k/\k<=n/\s=.int .i64 (TT k:Int)/\w=wr) (λ_ i _=>n-(intOf i).toNat)
 case atStart=>exact⟨0,rfl,jb,by rw[HT0.out];rfl,rfl⟩
 case round=>
  obtain⟨k,rfl,hk,rfl,rfl⟩:=hrel;by_cases hlt:k<n
  .obtain⟨b,off,rfl,-,-,-⟩:=HS.out.get jb;have c0:=HS.out.cellAt rfl (Below.refl _ _) (i:=k) (j:=0) hlt jb;obtain⟨v2,hG,hR⟩:=HQ.out k hlt;obtain⟨a2,cap2,rfl,-,-⟩:=hR.plain.form;rw[hG,eN,cy]at c0;have c1:w.cell? ⟨b,off+k,none⟩=some (Value.slice a2 (ix a k).length cap2):=c0;have e1:=HTS.out k jb;have e2:=HTL.out (k+1);have hb9:TT k+(ix a k).length<=1000000:=jb;have HE1:=jx e1;have i1:(0:Int)<=(k:Int):=jb;have i2:(k:Int)<(n:Int):=jb;clear c0 hG hR HTS HTL HPS HTA HPA;generalize (ix a k).length=m at*;clear e1 e2;generalize ht1:TT (k+1)=t1 at*;have HT1:=jx ht1;clear ht1;generalize TT k=t0 at*;have e3:IntKind.i64.wrap ((t0:Int)+(m:Int))=(t0:Int)+(m:Int):=IntWalk.i64_in _ jb;have e6:decide ((t0:Int)+(m:Int)<0)=false:=ap jb;go_wp2;go_roundw
   case rel=>exact⟨k+1,by go_num,jb,by rw[HT1.out,HE1.out];simp,by simp⟩
   case measure=>grind[intOf]
  .obtain rfl:k=n:=jb;have hnl:decide ((k:Int)<(k:Int))=false:=by simp
   have hle:=HTL.out k;have HGR:=jx (ag8 (TT k) w jb);go_wp2_with fail;refine HGR.out.mono ?_;rintro e w1 ⟨v1,rfl,ho1,hb1,hz1⟩;have HO1:=jx (ho1.congr (G:=PP 0) λi hi=>jb);have HB1:=jx hb1;have HZ1:=jx hz1;clear ho1 hb1 hz1 HGR;go_wp2_with fail;go_loopw [6,27] (λv i W=>∃q:Nat,i=.int .i64 q/\q<=k/\ng W w.heap.size 134 5 v (TT q) (PP q)/\Below w.heap.size w W/\(TT k=0->v=.slice none 0 0)) (λ_ i _=>k-(intOf i).toNat)
   case atStart=>exact⟨0,rfl,jb,by rw[HT0.out];exact HO1.out,HB1.out,HZ1.out⟩
   case round=>
    obtain⟨q,rfl,hq,hown,hbel,hzz⟩:=hrel;have HB:=jx hbel;have hsz:=hbel.size;by_cases hlt:q<k
    .obtain⟨b,off,rfl,-,-,-⟩:=HS.out.get jb;have c0:=HS.out.cellAt rfl HB.out (i:=q) (j:=0) hlt jb;obtain⟨v2,hG,hR⟩:=HQ.out q hlt;rw[hG,eN,cy]at c0;have e1:=HTS.out q jb;have e2:=HTL.out (q+1);have hap:=acA (t:=135) Tryz.underlying135 Zt jb hown (hR.on hbel).plain (λi hi u hu=>apy _ u hu) jb jb hsz;obtain⟨a2,cap2,rfl,-,-⟩:=hR.plain.form;obtain⟨v9,w9,hr9,ho9,hb9,hz9⟩:=hap;have c1:wr.cell? ⟨b,off+q,none⟩=some (Value.slice a2 (ix a q).length cap2):=c0;have HO9:=jx (show ng w9 w.heap.size 134 5 v9 (TT (q+1)) (PP (q+1))from by rw[e1];exact ho9.congr λi hi=>HPS.out q jb i);have HB9:=jx (HB.out.trans hb9);have HZ9:=jx (show TT k=0->v9=.slice none 0 0 from λh=>hz9 (hzz h) (by have:=HTM.out (q+1) k jb;omega));have i1:(0:Int)<=(q:Int):=jb;have i2:(q:Int)<(k:Int):=jb;clear c0 hG hR ho9 hb9 hown hbel hzz hz9 HTS HTL HPS HTA HPA HT0;go_wp2_with (at_builtin;refine Lib.wpList_append_run _ rfl _ _ _ _ rfl _ _ rfl rfl _ _ (hr9 _) ?_)
     go_roundw
     case rel=>exact⟨q+1,by go_num,jb,HO9.out,HB9.out,HZ9.out⟩
     case measure=>simp[intOf];omega
    .obtain rfl:q=k:=jb;have hnl:decide ((q:Int)<(q:Int))=false:=by simp
     have HZ:=jx (show N=0->u6=.slice none 0 0 from λh=>hzz (by rw[HTA.out];exact h));have HR:=jx (show ng wr w.heap.size 134 5 u6 N FF from by rw[<-HTA.out];exact hown.congr λi _=>HPA.out i);go_wp2;go_ret;exact⟨_,rfl,HR.out,HB.out,HZ.out⟩
def Zu(p:Nat->Prop)(v:Value)(a:fD)(w:World)(hA:yR w p v a)(la:a.length<=140737488351232)(lf:a.flatten.length<=1000000):
  Calls Tryz.prog 257 #[v] w (aBv w 134 a.flatten.length 5 λi=>(ix a.flatten i).c):=
 (Ju p v a w hA la lf).mono λ_ _ ⟨u,h1,h2,h3,_⟩=>⟨u,h1,h2,h3⟩
end Go.Proofs.Ins
namespace Go.Proofs
open Go.Shelf
def Tryz.lays189_ren:Go.Shelf.Ren:=⟨λ|189=>258|125=>303|257=>302|128=>337|129=>338|294=>328|295=>329|296=>330|297=>331|298=>332|299=>333|216=>334|300=>335|301=>336|328=>348|329=>349|330=>350|331=>351|332=>352|215=>353|343=>356|n=>n,λ|28=>60|3=>3|46=>131|0=>0|51=>310|53=>290|4=>4|183=>373|182=>372|131=>378|5=>5|9=>9|218=>388|222=>392|228=>395|229=>396|n=>n,λ|n=>n⟩
def Tryz.lays189:Go.Proofs.Lays.n189 Tryz.prog Tryz.lays189_ren:={
 mixed:=by kernel_rfl
 f125:=Tryz.func303.trans (br some (by kernel_rfl))
 f128:=Tryz.func337.trans (br some (by kernel_rfl))
 f129:=Tryz.func338.trans (br some (by kernel_rfl))
 f189:=Tryz.func258.trans (br some (by kernel_rfl))
 f215:=Tryz.func353.trans (br some (by kernel_rfl))
 f216:=Tryz.func334.trans (br some (by kernel_rfl))
 f257:=Tryz.func302.trans (br some (by kernel_rfl))
 f294:=Tryz.func328.trans (br some (by kernel_rfl))
 f295:=Tryz.func329.trans (br some (by kernel_rfl))
 f296:=Tryz.func330.trans (br some (by kernel_rfl))
 f297:=Tryz.func331.trans (br some (by kernel_rfl))
 f298:=Tryz.func332.trans (br some (by kernel_rfl))
 f299:=Tryz.func333.trans (br some (by kernel_rfl))
 f300:=Tryz.func335.trans (br some (by kernel_rfl))
 f301:=Tryz.func336.trans (br some (by kernel_rfl))
 f328:=Tryz.func348.trans (br some (by kernel_rfl))
 f329:=Tryz.func349.trans (br some (by kernel_rfl))
 f330:=Tryz.func350.trans (br some (by kernel_rfl))
 f331:=Tryz.func351.trans (br some (by kernel_rfl))
 f332:=Tryz.func352.trans (br some (by kernel_rfl))
 f343:=Tryz.func356.trans (br some (by kernel_rfl))
 t0:=Tryz.underlying0
 a0:=Tryz.isAgg0
 z0:=Tryz.sizeOf0
 v0:=Tryz.zeroValue0
 t3:=Tryz.underlying3
 a3:=Tryz.isAgg3
 z3:=Tryz.sizeOf3
 v3:=Tryz.zeroValue3
 t4:=Tryz.underlying4
 a4:=Tryz.isAgg4
 z4:=Tryz.sizeOf4
 v4:=Tryz.zeroValue4
 t5:=Tryz.underlying5
 a5:=Tryz.isAgg5
 z5:=Tryz.sizeOf5
 v5:=Tryz.zeroValue5
 t9:=Tryz.underlying9
 a9:=Tryz.isAgg9
 z9:=Tryz.sizeOf9
 v9:=Tryz.zeroValue9
 t28:=Tryz.underlying60
 a28:=Tryz.isAgg60
 z28:=Tryz.sizeOf60
 v28:=Tryz.zeroValue60
 t46:=Tryz.underlying131
 a46:=Tryz.isAgg131
 z46:=Tryz.sizeOf131
 v46:=Tryz.zeroValue131
 t51:=Tryz.underlying310
 a51:=Tryz.isAgg310
 z51:=Tryz.sizeOf310
 v51:=Tryz.zeroValue310
 t53:=Tryz.underlying290
 a53:=Tryz.isAgg290
 z53:=Tryz.sizeOf290
 v53:=Tryz.zeroValue290
 t131:=Tryz.underlying378
 a131:=Tryz.isAgg378
 z131:=Tryz.sizeOf378
 v131:=Tryz.zeroValue378
 t182:=Tryz.underlying372
 a182:=Tryz.isAgg372
 z182:=Tryz.sizeOf372
 v182:=Tryz.zeroValue372
 t183:=Tryz.underlying373
 a183:=Tryz.isAgg373
 z183:=Tryz.sizeOf373
 v183:=Tryz.zeroValue373
 t218:=Tryz.underlying388
 a218:=Tryz.isAgg388
 z218:=Tryz.sizeOf388
 v218:=Tryz.zeroValue388
 t222:=Tryz.underlying392
 a222:=Tryz.isAgg392
 z222:=Tryz.sizeOf392
 v222:=Tryz.zeroValue392
 t228:=Tryz.underlying395
 a228:=Tryz.isAgg395
 z228:=Tryz.sizeOf395
 v228:=Tryz.zeroValue395
 t229:=Tryz.underlying396
 a229:=Tryz.isAgg396
 z229:=Tryz.sizeOf396
 v229:=Tryz.zeroValue396 }
open Go.Sort Go.RowKit in
def Tryz.slices_Sort_int(blk off cap:Nat)(zs:List Int)(w:World)(hH:Holds (Value.int .i64) w blk off zs.toArray)(hblk:blk<w.heap.size)(hsz:zs.length<4611686018427387904):
  Calls Tryz.prog 258 #[.slice (some ⟨blk,off,none⟩) zs.length cap] w λe w'=>
   e=.returned (.tuple #[])/\∃n os,w'=grow (putRow (Value.int .i64) (Sort.ahead w n) blk off (zs.mergeSort λx y=>decide (x<=y)).toArray) os:=Any.slices_Sort_int Tryz.lays189 blk off cap zs w hH hblk hsz
open Go.RowKit Go.Sort in
def Tryz.slices_Sort_int_none(p:Option Addr)(cap:Nat)(w:World):
  Calls Tryz.prog 258 #[.slice p 0 cap] w λe w'=>e=.returned (.tuple #[])/\w'=w:=Any.slices_Sort_int_none Tryz.lays189 p cap w
def Tryz.laysNm220_ren:Go.Shelf.Ren:=⟨λ|20=>259|n=>n,λ|22=>60|3=>3|4=>4|0=>0|n=>n,λ|n=>n⟩
def Tryz.laysNm220:Go.Proofs.Lays2.n20 Tryz.prog Tryz.laysNm220_ren:={
 mixed:=by kernel_rfl
 f20:=Tryz.func259.trans (br some (by kernel_rfl))
 t0:=Tryz.underlying0
 a0:=Tryz.isAgg0
 z0:=Tryz.sizeOf0
 v0:=Tryz.zeroValue0
 t3:=Tryz.underlying3
 a3:=Tryz.isAgg3
 z3:=Tryz.sizeOf3
 v3:=Tryz.zeroValue3
 t4:=Tryz.underlying4
 a4:=Tryz.isAgg4
 z4:=Tryz.sizeOf4
 v4:=Tryz.zeroValue4
 t22:=Tryz.underlying60
 a22:=Tryz.isAgg60
 z22:=Tryz.sizeOf60
 v22:=Tryz.zeroValue60
 i3:=by kernel_rfl }
open Go.RowKit Go.Lib Go.Sort in
def Tryz.slices_Compact_int(blk off cap:Nat)(zs:List Int)(w:World)(hH:Holds (Value.int .i64) w blk off zs.toArray)(hsz:zs.length<=9223372036854775807)(hcap:zs.length<=cap):
  Calls Tryz.prog 259 #[.slice (some ⟨blk,off,none⟩) zs.length cap] w λe w'=>e=.returned (.slice (some ⟨blk,off,none⟩) (Lib.compact zs).length cap)/\∃q,w'=putRow (Value.int .i64) (Sort.ahead w q) blk off (Lib.compact zs++List.replicate (zs.length-(Lib.compact zs).length) 0).toArray:=Any.slices_Compact_int Tryz.laysNm220 blk off cap zs w hH hsz hcap
open Go.RowKit Go.Lib Go.Sort in
def Tryz.slices_Compact_int_empty(a:Option Addr)(cap:Nat)(w:World):
  Calls Tryz.prog 259 #[.slice a 0 cap] w λe w'=>e=.returned (.slice a 0 cap)/\w'=w:=Any.slices_Compact_int_empty Tryz.laysNm220 a cap w
end Go.Proofs
namespace Go.Proofs.Ins
def yC(a:fD):List Int:=Lib.compact (((a.flatten.map λx=>x.k).filter λx=>x !=-1).mergeSort λx y=>decide (x<=y))
def EJ(d:Array Int)(hs:∀i j,i<=j->j<d.size->d[i]!<=d[j]!):∀m,m<=d.size->(Lib.compactUpTo d m).Pairwise (· < ·)/\∀x∈Lib.compactUpTo d m,0<m/\x<=d[m-1]!
 |0,_=>by unfold Lib.compactUpTo;simp
 |m+1,hm=>by
  obtain⟨h1,h2⟩:=EJ d hs m jb;rw[Lib.compactUpTo_succ];have h3:∀x∈Lib.compactUpTo d m,x<=d[m]!:=λx hx=>by obtain⟨h4,h5⟩:=h2 x hx;have:=hs (m-1) m jb jb;omega
  rw[show m+1-1=m by omega];by_cases hk:Lib.keeps d m=true
  .rw[ab hk];have h6:∀x∈Lib.compactUpTo d m,x<d[m]!:=λx hx=>by
    obtain⟨h4,h5⟩:=h2 x hx;have h7:=hs (m-1) m jb jb;unfold Lib.keeps at hk;have hk:=cI hk;rcases hk with hk|hk
    .omega
    .omega
   refine⟨List.pairwise_append.mpr ⟨h1,List.pairwise_singleton _ _,λx hx y hy=>?_⟩,λx hx=>⟨jb,?_⟩⟩
   .rw[cU]at hy;rw[hy];exact h6 x hx
   .rcases bO.mp hx with hx|hx
    .exact h3 x hx
    .rw[cU]at hx;rw[hx];exact Int.le_refl _
  .rw[ae hk,dc];exact⟨h1,λx hx=>⟨jb,h3 x hx⟩⟩
def acB{zs:List Int}(hs:zs.Pairwise (·<=·)):(Lib.compact zs).Pairwise (· < ·):=by
 refine(EJ zs.toArray (λi j hij hj=>?_) zs.length kc).1;have hj:j<zs.length:=jb;have hi:i<zs.length:=jb;simp only[List.getElem!_toArray];rw[getElem!_pos zs i hi,getElem!_pos zs j hj];by_cases e:i=j
 .grind
 .exact io.mp hs i j hi hj jb
theorem mem_compact {zs:List Int} {x:Int} : x∈Lib.compact zs↔x∈zs:=by
 unfold Lib.compact Lib.compactUpTo
 rw [List.mem_map]
 constructor
 ·grind
 ·intro hx
  obtain ⟨i,hi,rfl⟩:=List.getElem_of_mem hx
  have : ∀ j,j<zs.length→∃ k,k≤j∧Lib.keeps zs.toArray k=true∧zs.toArray[k]! = zs.toArray[j]!:=by
   intro j
   induction j with
   | zero=>grind[Lib.keeps]
   | succ j ih =>
    grind[Go.Lib.keeps]
  grind
def aer(a:fD):(yC a).Pairwise (· < ·):=by refine acB ?_;grind[List.pairwise_mergeSort]
def tH{a:fD}{c:Int}:c∈yC a↔c≠-1/\Qm a c=true:=by grind[yC,mem_compact,List.mem_mergeSort,Qm,memT]
end Go.Proofs.Ins
