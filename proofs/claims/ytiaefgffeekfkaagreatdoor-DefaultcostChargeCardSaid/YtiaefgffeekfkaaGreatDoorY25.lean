/- The walks of insolvencyref17.earlier and agreement. -/
import Derived.Test.YtiaefgffeekfkaaGreatDoorY24
set_option linter.unusedSimpArgs false
set_option linter.unusedVariables false
set_option maxHeartbeats 8000000
namespace Go.Proofs.Xe
open Go Go.RowKit Go.ChangeShapes Go.WideShapes Go.ChangeAt Go.Deep Go.Proofs.Ins Go.Proofs.YtiaefgffeekfkaaGreatDoor
section
variable {H:Type} {enc:TypeId×Value→H} {W:World} {sp:Nat→Bool} {held:Bool}
theorem sl_form {P:Program} {t e:TypeId} (ht:P.underlying t=some (.slice e)) {fuel:Nat} {a:Option Addr} {n c:Nat} {x:DataW H×List MemPlace} (h:DataW.trod enc P W 0 sp held fuel t [.slice a n c]=some x):((a=none∧n=0∧c=0)∨∃ y,a=some y)∧n≤c∧c≤9223372036854775807:=by
 rcases open_slice ht h with ⟨e1,-⟩|⟨a',len,cap,m,k,D,Pl,e1,-,hl,hm,-⟩
 ·simp only [List.cons.injEq,Value.slice.injEq,and_true] at e1
  obtain ⟨rfl,rfl,rfl⟩:=e1
  exact ⟨.inl ⟨rfl,rfl,rfl⟩,Nat.le_refl _,by omega⟩
 ·simp only [List.cons.injEq,Value.slice.injEq,and_true] at e1
  obtain ⟨rfl,rfl,rfl⟩:=e1
  simp only [maxLen] at hm
  exact ⟨.inr ⟨_,rfl⟩,hl,by omega⟩
set_option maxRecDepth 100000 in
theorem x_u16s {fuel:Nat} {cs:List Value} {x:DataW H×List MemPlace} (h:DataW.trod enc Tryz.prog W 0 sp held fuel 22 cs=some x) (hL:Light Tryz.prog 22 x.1) :
  ∃ v n,∃ M:Nat→Nat,cs=[v]∧n≤140737488351232∧HL (St.of W).h 1 (absB W.heap.size v) n (fun i=>[.int .u16 (.ofNat (M i))])∧∀ i,i<n→M i≤65535:=by
 obtain ⟨a,n,c,M,rfl,hn,hs,hM⟩:=arg_u16s h hL
 obtain ⟨h1,h2,h3⟩:=sl_form Tryz.underlying22 h
 exact ⟨_,n,M,rfl,hn,HL.of hs h1 h2 h3 (by decide) (fun _ _=>rfl) (fun i _ v hv=>by
  simp only [c16,List.mem_singleton] at hv
  rw [hv];rfl),hM⟩
set_option maxRecDepth 100000 in
theorem x_arr4_cells {fuel:Nat} {cs:List Value} {x:DataW H×List MemPlace} (h:DataW.trod enc Tryz.prog W 0 sp held fuel 115 cs=some x) :
  ∃ m:Nat→Nat,cs=[.int .u16 (m 0:Int),.int .u16 (m 1:Int),.int .u16 (m 2:Int),.int .u16 (m 3:Int)]∧∀ j,m j≤65535:=by
 obtain ⟨xs,n,rfl,rfl,hl,hx,hf⟩:=DataW.trod_array Tryz.underlying115 h
 have hc:Tryz.prog.cellsOf 115=4:=by kernel_rfl
 have hc0:Tryz.prog.cellsOf 24=1:=by kernel_rfl
 simp only [hc0,Nat.mul_one] at hf
 rw [hc] at hl
 match cs,hl,xs,hx with
 | [c0,c1,c2,c3],_,[x0,x1,x2,x3],_ =>
  obtain ⟨m0,e0,l0⟩:=u16_cells (show DataW.trod enc Tryz.prog W 0 sp held n 24 [c0]=some x0 from hf 0 (by omega))
  obtain ⟨m1,e1,l1⟩:=u16_cells (show DataW.trod enc Tryz.prog W 0 sp held n 24 [c1]=some x1 from hf 1 (by omega))
  obtain ⟨m2,e2,l2⟩:=u16_cells (show DataW.trod enc Tryz.prog W 0 sp held n 24 [c2]=some x2 from hf 2 (by omega))
  obtain ⟨m3,e3,l3⟩:=u16_cells (show DataW.trod enc Tryz.prog W 0 sp held n 24 [c3]=some x3 from hf 3 (by omega))
  simp at e0 e1 e2 e3
  subst e0 e1 e2 e3
  exact ⟨fun j=>if j=0 then m0 else if j=1 then m1 else if j=2 then m2 else m3,rfl,fun j=>by dsimp only;split;exact l0;split;exact l1;split;exact l2;exact l3⟩
set_option maxRecDepth 100000 in
theorem x_arrs {fuel:Nat} {cs:List Value} {x:DataW H×List MemPlace} (h:DataW.trod enc Tryz.prog W 0 sp held fuel 23 cs=some x) (hL:Light Tryz.prog 23 x.1) :
  ∃ v n,∃ L:Nat→Nat→Nat,cs=[v]∧n≤140737488351232∧HL (St.of W).h 4 (absB W.heap.size v) n (fun i=>[.int .u16 (.ofNat (L i 0)),.int .u16 (.ofNat (L i 1)),.int .u16 (.ofNat (L i 2)),.int .u16 (.ofNat (L i 3))])∧∀ i j,i<n→L i j≤65535:=by
 obtain ⟨a,n,c,C,rfl,hn,hs0,hx⟩:=open_rows (k:=4) Tryz.underlying23 (by kernel_rfl) (by omega) (of_decide_eq_true (by kernel_rfl)) h hL
 obtain ⟨L,hLL⟩:=choose_lt (α:=Nat→Nat) (p:=fun i m=>C i=[.int .u16 (m 0:Int),.int .u16 (m 1:Int),.int .u16 (m 2:Int),.int .u16 (m 3:Int)]∧∀ j,m j≤65535) (fun i hi=>by
  obtain ⟨_,n,y,h1,h2⟩:=hx i hi
  exact x_arr4_cells h1)
 have hs:=hs0.congr fun i hi=>(hLL i hi).1
 obtain ⟨h1,h2,h3⟩:=sl_form Tryz.underlying23 h
 exact ⟨_,n,L,rfl,hn,HL.of hs h1 h2 h3 (by decide) (fun _ _=>rfl) (fun i _ v hv=>by
  simp only [List.mem_cons,List.not_mem_nil,or_false] at hv
  rcases hv with rfl|rfl|rfl|rfl <;> rfl),fun i j hi=>(hLL i hi).2 j⟩
set_option maxRecDepth 100000 in
theorem x_arr3_cells {fuel:Nat} {cs:List Value} {x:DataW H×List MemPlace} (h:DataW.trod enc Tryz.prog W 0 sp held fuel 116 cs=some x) :
  ∃ m:Nat→Nat,cs=[.int .u16 (m 0:Int),.int .u16 (m 1:Int),.int .u16 (m 2:Int)]∧∀ j,m j≤65535:=by
 obtain ⟨xs,n,rfl,rfl,hl,hx,hf⟩:=DataW.trod_array Tryz.underlying116 h
 have hc:Tryz.prog.cellsOf 116=3:=by kernel_rfl
 have hc0:Tryz.prog.cellsOf 24=1:=by kernel_rfl
 simp only [hc0,Nat.mul_one] at hf
 rw [hc] at hl
 match cs,hl,xs,hx with
 | [c0,c1,c2],_,[x0,x1,x2],_ =>
  obtain ⟨m0,e0,l0⟩:=u16_cells (show DataW.trod enc Tryz.prog W 0 sp held n 24 [c0]=some x0 from hf 0 (by omega))
  obtain ⟨m1,e1,l1⟩:=u16_cells (show DataW.trod enc Tryz.prog W 0 sp held n 24 [c1]=some x1 from hf 1 (by omega))
  obtain ⟨m2,e2,l2⟩:=u16_cells (show DataW.trod enc Tryz.prog W 0 sp held n 24 [c2]=some x2 from hf 2 (by omega))
  simp at e0 e1 e2
  subst e0 e1 e2
  exact ⟨fun j=>if j=0 then m0 else if j=1 then m1 else m2,rfl,fun j=>by dsimp only;split;exact l0;split;exact l1;exact l2⟩
set_option maxRecDepth 100000 in
theorem x_arrs3 {fuel:Nat} {cs:List Value} {x:DataW H×List MemPlace} (h:DataW.trod enc Tryz.prog W 0 sp held fuel 41 cs=some x) (hL:Light Tryz.prog 41 x.1) :
  ∃ v n,∃ L:Nat→Nat→Nat,cs=[v]∧n≤140737488351232∧HL (St.of W).h 3 (absB W.heap.size v) n (fun i=>[.int .u16 (.ofNat (L i 0)),.int .u16 (.ofNat (L i 1)),.int .u16 (.ofNat (L i 2))])∧∀ i j,i<n→L i j≤65535:=by
 obtain ⟨a,n,c,C,rfl,hn,hs0,hx⟩:=open_rows (k:=3) Tryz.underlying41 (by kernel_rfl) (by omega) (of_decide_eq_true (by kernel_rfl)) h hL
 obtain ⟨L,hLL⟩:=choose_lt (α:=Nat→Nat) (p:=fun i m=>C i=[.int .u16 (m 0:Int),.int .u16 (m 1:Int),.int .u16 (m 2:Int)]∧∀ j,m j≤65535) (fun i hi=>by
  obtain ⟨_,n,y,h1,h2⟩:=hx i hi
  exact x_arr3_cells h1)
 have hs:=hs0.congr fun i hi=>(hLL i hi).1
 obtain ⟨h1,h2,h3⟩:=sl_form Tryz.underlying41 h
 exact ⟨_,n,L,rfl,hn,HL.of hs h1 h2 h3 (by decide) (fun _ _=>rfl) (fun i _ v hv=>by
  simp only [List.mem_cons,List.not_mem_nil,or_false] at hv
  rcases hv with rfl|rfl|rfl <;> rfl),fun i j hi=>(hLL i hi).2 j⟩
end
end Go.Proofs.Xe
namespace Go.Proofs.Ins
def fnz (f:Nat→Int):Nat→Int
 | 0=>0
 | n+1=>if fnz f n=0 then f n else fnz f n
theorem fnz_none {f:Nat→Int} : ∀ {n:Nat},(∀ i,i<n→f i=0)→fnz f n=0
 | 0,_=>rfl
 | n+1,h=>by
  unfold fnz;rw [if_pos (fnz_none fun i hi=>h i (by omega))];exact h n (by omega)
theorem fnz_hit {f:Nat→Int} {k:Nat} : ∀ {n:Nat},(∀ i,i<k→f i=0)→f k≠0→k<n→fnz f n=f k
 | 0,_,_,h=>by omega
 | n+1,h,h2,h3=>by
  unfold fnz
  by_cases e:k=n
  ·subst e;rw [if_pos (fnz_none h)]
  ·have:=fnz_hit h h2 (show k<n by omega)
   rw [if_neg (by rw [this];exact h2),this]
theorem fnz_zero {f:Nat→Int} : ∀ {n:Nat},fnz f n=0→∀ i,i<n→f i=0
 | 0,_,i,hi=>by omega
 | n+1,h,i,hi=>by
  unfold fnz at h
  by_cases e:fnz f n=0
  ·rw [if_pos e] at h
   by_cases e2:i=n
   ·rw [e2];exact h
   ·exact fnz_zero e i (by omega)
  ·rw [if_neg e] at h;exact absurd h e
theorem fnz_congr {f g:Nat→Int} : ∀ {n:Nat},(∀ i,i<n→f i=g i)→fnz f n=fnz g n
 | 0,_=>rfl
 | n+1,h=>by unfold fnz;rw [fnz_congr (n:=n) fun i hi=>h i (by omega),h n (by omega)]
def chkC (x:C5):Int:=if x.h < -1∨8≤x.h then 19 else if x.r<0∨7<x.r then 1 else if sg x.a.q<0 then 7 else 0
def memT (t:Tier) (c:Int):Bool:=t.any fun p=>p.k == c
def memA (a:Agr) (c:Int):Bool:=a.any fun t=>memT t c
def earA (l:List Agr) (k:Nat) (c:Int):Bool:=(l.take k).any fun a=>memA a c
def chkP (n:Nat) (tk:Int→Bool) (p:Prt):Int :=
 if p.k < -1∨(n:Int)≤p.k then 1 else if p.k = -1∧p.b=false then 21 else if p.b=true∧sg p.a.q<0 then 7 else if p.k≠-1∧tk p.k=true then 20 else 0
def longT (a:Agr):Bool:=decide (24<a.length) || a.any fun t=>decide (24<t.length)
def chkT (n:Nat) (tk:Int→Bool) (t:Tier):Int:=fnz (fun i=>chkP n tk (ix t i)) t.length
def chkA (n:Nat) (tk:Int→Bool) (a:Agr):Int:=if longT a=true then 2 else fnz (fun i=>chkT n tk (ix a i)) a.length
def chkE (e:Est):Int :=
 if 24<e.c.length∨12<e.a.length then 2 else if sg e.m.q<0 then 7
 else if fnz (fun i=>chkC (ix e.c i)) e.c.length≠0 then fnz (fun i=>chkC (ix e.c i)) e.c.length
 else fnz (fun k=>chkA e.c.length (earA e.a k) (ix e.a k)) e.a.length
theorem memT_ix {t:Tier} {c:Int} : memT t c=true↔∃ i,i<t.length∧(ix t i).k=c:=by
 unfold memT;rw [List.any_eq_true]
 constructor
 ·rintro ⟨x,hx,h⟩
  obtain ⟨i,hi,rfl⟩:=List.getElem_of_mem hx
  exact ⟨i,hi,by rw [ix_lt hi];simpa using h⟩
 ·rintro ⟨i,hi,h⟩
  exact ⟨_,ix_mem hi,by simpa using h⟩
theorem memA_ix {a:Agr} {c:Int} : memA a c=true↔∃ i,i<a.length∧memT (ix a i) c=true:=by
 unfold memA;rw [List.any_eq_true]
 constructor
 ·rintro ⟨x,hx,h⟩
  obtain ⟨i,hi,rfl⟩:=List.getElem_of_mem hx
  exact ⟨i,hi,by rw [ix_lt hi];exact h⟩
 ·rintro ⟨i,hi,h⟩
  exact ⟨_,ix_mem hi,h⟩
theorem earA_zero (l:List Agr) (c:Int):earA l 0 c=false:=by simp [earA]
theorem earA_succ {l:List Agr} {k:Nat} (h:k<l.length) (c:Int):earA l (k+1) c=(earA l k c || memA (ix l k) c):=by
 unfold earA;rw [take_succ_ix h,List.any_append];simp
theorem longT_false {a:Agr} : longT a=false↔a.length≤24∧∀ i,i<a.length→(ix a i).length≤24:=by
 unfold longT
 rw [Bool.or_eq_false_iff,decide_eq_false_iff_not,List.any_eq_false]
 constructor
 ·rintro ⟨h1,h2⟩
  exact ⟨by omega,fun i hi=>by have:=h2 _ (ix_mem hi);simp at this;omega⟩
 ·rintro ⟨h1,h2⟩
  refine ⟨by omega,fun x hx=>?_⟩
  obtain ⟨i,hi,rfl⟩:=List.getElem_of_mem hx
  have:=h2 i hi;rw [ix_lt hi] at this;simp;omega
def legsB (l:List Dbt) (d k:Nat):List Lg:=((l.take d).flatMap fun x=>x.l) ++ (ix l d).l.take k
def hasLg (s:List Lg) (x:Lg):Bool:=s.any fun y=>y.e == x.e && y.k == x.k
def holdL (l:List Est) (x:Lg):Int:=(ix (ix l x.e.toNat).c x.k.toNat).h
def chkL (g:Grp) (d k:Nat):Int :=
 let x:=ix (ix g.d d).l k
 if x.e<0∨(g.e.length:Int)≤x.e∨x.k<0∨((ix g.e x.e.toNat).c.length:Int)≤x.k then 1
 else if hasLg (legsB g.d d k) x=true then 20
 else if holdL g.e x≠holdL g.e (ix (ix g.d d).l 0) then 19 else 0
def chkD (g:Grp) (d:Nat):Int :=
 if 8<(ix g.d d).l.length then 2 else if sg (ix g.d d).w.q<0 then 7 else fnz (chkL g d) (ix g.d d).l.length
def chkH (g:Grp) (i k:Nat):Int:=if (g.e.length:Int)≤(ix (ix g.e i).c k).h∨(ix (ix g.e i).c k).h=(i:Int) then 19 else 0
def chkG (g:Grp):Int :=
 if 8<g.e.length∨16<g.d.length then 2
 else if fnz (fun i=>chkE (ix g.e i)) g.e.length≠0 then fnz (fun i=>chkE (ix g.e i)) g.e.length
 else if fnz (fun i=>fnz (chkH g i) (ix g.e i).c.length) g.e.length≠0 then fnz (fun i=>fnz (chkH g i) (ix g.e i).c.length) g.e.length
 else fnz (chkD g) g.d.length
structure SmallE (k:Nat) (e:Est):Prop where
 m:e.m.fits k
 c : ∀ i,i<e.c.length→(ix e.c i).a.fits k
 a : ∀ i j l,i<e.a.length→j<(ix e.a i).length→l<(ix (ix e.a i) j).length→(ix (ix (ix e.a i) j) l).a.fits k
 lc:e.c.length≤140737488351232
 la:e.a.length≤140737488351232
 lt : ∀ i,i<e.a.length→(ix e.a i).length≤140737488351232
 lp : ∀ i j,i<e.a.length→j<(ix e.a i).length→(ix (ix e.a i) j).length≤140737488351232
structure SmallG (k:Nat) (g:Grp):Prop where
 e : ∀ i,i<g.e.length→SmallE k (ix g.e i)
 w : ∀ i,i<g.d.length→(ix g.d i).w.fits k
 le:g.e.length≤140737488351232
 ld:g.d.length≤140737488351232
 ll : ∀ i,i<g.d.length→(ix g.d i).l.length≤140737488351232
end Go.Proofs.Ins
namespace Go.Proofs.Xe
open Go.RowKit Go.Proofs.Ins
def HLp (p:Nat→Prop) (h:Tr Bk) (e:Nat) (v:B) (n:Nat) (G:Nat→List B):Prop :=
 (n=0∧v = .nils)∨∃ b o c,v = .sl b o n c∧(0<n→p b)∧∀ i,i<n→ld h b (o+i*e) e true=some (.agg (G i))
section
variable {p q:Nat→Prop} {h h' : Tr Bk} {e n:Nat} {v:B} {G:Nat→List B}
theorem HLp.hl (hl:HLp p h e v n G):HL h e v n G:=by
 rcases hl with h|⟨b,o,c,h1,h2,h3⟩
 ·exact .inl h
 ·exact .inr ⟨b,o,c,h1,h3⟩
theorem HLp.len (hl:HLp p h e v n G):lenV (.c v)=some (.c (.int .i64 (.ofNat n))):=hl.hl.len
theorem HLp.kn (hl:HLp p h e v n G):v.kn=true:=hl.hl.kn
theorem HLp.pos (hl:HLp p h e v n G) (hn:0<n) : ∃ b o c,v = .sl b o n c∧p b∧∀ i,i<n→ld h b (o+i*e) e true=some (.agg (G i)):=by
 rcases hl with ⟨rfl,-⟩|⟨b,o,c,h1,h2,h3⟩
 ·omega
 ·exact ⟨b,o,c,h1,h2 hn,h3⟩
theorem HLp.keep (hl:HLp p h e v n G) (hk : ∀ b,p b→h' b=h b) (hp : ∀ b,p b→q b):HLp q h' e v n G:=by
 rcases hl with h1|⟨b,o,c,h1,h2,h3⟩
 ·exact .inl h1
 ·refine .inr ⟨b,o,c,h1,fun h=>hp _ (h2 h),fun i hi=>?_⟩
  have:=h3 i hi
  unfold ld at this ⊢
  rw [hk b (h2 (by omega))];exact this
theorem HLp.congr {G' : Nat→List B} (hl:HLp p h e v n G) (hg : ∀ i,i<n→G i=G' i):HLp p h e v n G':=by
 rcases hl with h1|⟨b,o,c,h1,h2,h3⟩
 ·exact .inl h1
 ·exact .inr ⟨b,o,c,h1,h2,fun i hi=>by rw [← hg i hi];exact h3 i hi⟩
theorem HLp.uniq {n' : Nat} {G' : Nat→List B} {p' : Nat→Prop} (hl:HLp p h e v n G) (hl' : HLp p' h e v n' G'):n=n'∧∀ i,i<n→G i=G' i:=by
 rcases hl with ⟨rfl,rfl⟩|⟨b,o,c,rfl,h2,h3⟩
 ·rcases hl' with ⟨rfl,-⟩|⟨b,o,c,h1,-⟩
  ·exact ⟨rfl,fun i hi=>by omega⟩
  ·cases h1
 ·rcases hl' with ⟨-,h1⟩|⟨b',o',c',h1,h2',h3'⟩
  ·cases h1
  ·cases h1
   refine ⟨rfl,fun i hi=>?_⟩
   have a:=h3 i hi
   rw [h3' i hi] at a
   exact (V.agg.inj (Option.some.inj a)).symm
end
def c5B (x:C5):List B:=[.int .i64 x.h,.int .i64 x.r,.bool x.a.n,.str x.a.s,.str x.a.d]
def prtB (x:Prt):List B:=[.int .i64 x.k,.bool x.b,.bool x.a.n,.str x.a.s,.str x.a.d]
def lgB (x:Ins.Lg):List B:=[.int .i64 x.e,.int .i64 x.k]
def HClaims (p:Nat→Prop) (h:Tr Bk) (v:B) (l:List C5):Prop:=HLp p h 5 v l.length fun i=>c5B (ix l i)
def HParts (p:Nat→Prop) (h:Tr Bk) (v:B) (l:List Prt):Prop:=HLp p h 5 v l.length fun i=>prtB (ix l i)
def HLegs (p:Nat→Prop) (h:Tr Bk) (v:B) (l:List Ins.Lg):Prop:=HLp p h 2 v l.length fun i=>lgB (ix l i)
def HTiers (p:Nat→Prop) (h:Tr Bk) (v:B) (l:Agr):Prop:=∃ T:Nat→B,HLp p h 1 v l.length (fun i=>[T i])∧∀ i,i<l.length→HParts p h (T i) (ix l i)
def HAgrs (p:Nat→Prop) (h:Tr Bk) (v:B) (l:List Agr):Prop:=∃ T:Nat→B,HLp p h 1 v l.length (fun i=>[T i])∧∀ i,i<l.length→HTiers p h (T i) (ix l i)
def HEsts (p:Nat→Prop) (h:Tr Bk) (v:B) (l:List Est):Prop:=∃ C A:Nat→B,HLp p h 5 v l.length (fun i=>[.bool (ix l i).m.n,.str (ix l i).m.s,.str (ix l i).m.d,C i,A i])∧∀ i,i<l.length→HClaims p h (C i) (ix l i).c∧HAgrs p h (A i) (ix l i).a
def HDbts (p:Nat→Prop) (h:Tr Bk) (v:B) (l:List Dbt):Prop:=∃ L:Nat→B,HLp p h 4 v l.length (fun i=>[.bool (ix l i).w.n,.str (ix l i).w.s,.str (ix l i).w.d,L i])∧∀ i,i<l.length→HLegs p h (L i) (ix l i).l
structure HGrp (p:Nat→Prop) (h:Tr Bk) (ev dv:B) (g:Grp):Prop where
 e:HEsts p h ev g.e
 d:HDbts p h dv g.d
section
variable {p q p' : Nat→Prop} {h h' : Tr Bk} {v ev dv:B}
theorem HTiers.keep {l:Agr} (hl:HTiers p h v l) (hk : ∀ b,p b→h' b=h b) (hp : ∀ b,p b→q b):HTiers q h' v l:=by
 obtain ⟨T,h1,h2⟩:=hl
 exact ⟨T,h1.keep hk hp,fun i hi=>(h2 i hi).keep hk hp⟩
theorem HAgrs.keep {l:List Agr} (hl:HAgrs p h v l) (hk : ∀ b,p b→h' b=h b) (hp : ∀ b,p b→q b):HAgrs q h' v l:=by
 obtain ⟨T,h1,h2⟩:=hl
 exact ⟨T,h1.keep hk hp,fun i hi=>(h2 i hi).keep hk hp⟩
theorem HEsts.keep {l:List Est} (hl:HEsts p h v l) (hk : ∀ b,p b→h' b=h b) (hp : ∀ b,p b→q b):HEsts q h' v l:=by
 obtain ⟨C,A,h1,h2⟩:=hl
 exact ⟨C,A,h1.keep hk hp,fun i hi=>⟨(h2 i hi).1.keep hk hp,(h2 i hi).2.keep hk hp⟩⟩
theorem HDbts.keep {l:List Dbt} (hl:HDbts p h v l) (hk : ∀ b,p b→h' b=h b) (hp : ∀ b,p b→q b):HDbts q h' v l:=by
 obtain ⟨L,h1,h2⟩:=hl
 exact ⟨L,h1.keep hk hp,fun i hi=>(h2 i hi).keep hk hp⟩
theorem HGrp.keep {g:Grp} (hg:HGrp p h ev dv g) (hk : ∀ b,p b→h' b=h b) (hp : ∀ b,p b→q b):HGrp q h' ev dv g:=⟨hg.e.keep hk hp,hg.d.keep hk hp⟩
theorem list_ext {α:Type} [Inhabited α] {l l' : List α} (hn:l.length=l'.length) (h : ∀ i,i<l.length→ix l i=ix l' i):l=l':=by
 apply List.ext_getElem hn
 intro i h1 h2
 have:=h i h1
 rw [ix_lt h1,ix_lt h2] at this
 exact this
theorem HClaims.uniq {l l' : List C5} (hl:HClaims p h v l) (hl' : HClaims p' h v l'):l=l':=by
 obtain ⟨h1,h2⟩:=HLp.uniq hl hl'
 refine list_ext h1 fun i hi=>?_
 have e:=h2 i hi
 generalize ix l i=x at *
 generalize ix l' i=y at *
 obtain ⟨x1,x2,x3,x4,x5⟩:=x
 obtain ⟨y1,y2,y3,y4,y5⟩:=y
 simp [c5B] at e
 obtain ⟨rfl,rfl,rfl,rfl,rfl⟩:=e
 rfl
theorem HParts.uniq {l l' : List Prt} (hl:HParts p h v l) (hl' : HParts p' h v l'):l=l':=by
 obtain ⟨h1,h2⟩:=HLp.uniq hl hl'
 refine list_ext h1 fun i hi=>?_
 have e:=h2 i hi
 generalize ix l i=x at *
 generalize ix l' i=y at *
 obtain ⟨x1,x2,x3,x4,x5⟩:=x
 obtain ⟨y1,y2,y3,y4,y5⟩:=y
 simp [prtB] at e
 obtain ⟨rfl,rfl,rfl,rfl,rfl⟩:=e
 rfl
theorem HLegs.uniq {l l' : List Ins.Lg} (hl:HLegs p h v l) (hl' : HLegs p' h v l'):l=l':=by
 obtain ⟨h1,h2⟩:=HLp.uniq hl hl'
 refine list_ext h1 fun i hi=>?_
 have e:=h2 i hi
 generalize ix l i=x at *
 generalize ix l' i=y at *
 obtain ⟨x1,x2⟩:=x
 obtain ⟨y1,y2⟩:=y
 simp [lgB] at e
 obtain ⟨rfl,rfl⟩:=e
 rfl
theorem HTiers.uniq {l l' : Agr} (hl:HTiers p h v l) (hl' : HTiers p' h v l'):l=l':=by
 obtain ⟨T,h1,h2⟩:=hl
 obtain ⟨T',h1',h2'⟩:=hl'
 obtain ⟨e1,e2⟩:=h1.uniq h1'
 refine list_ext e1 fun i hi=>?_
 have e:=e2 i hi
 simp only [List.cons.injEq,and_true] at e
 have a:=h2 i hi
 rw [e] at a
 exact a.uniq (h2' i (by omega))
theorem HAgrs.uniq {l l' : List Agr} (hl:HAgrs p h v l) (hl' : HAgrs p' h v l'):l=l':=by
 obtain ⟨T,h1,h2⟩:=hl
 obtain ⟨T',h1',h2'⟩:=hl'
 obtain ⟨e1,e2⟩:=h1.uniq h1'
 refine list_ext e1 fun i hi=>?_
 have e:=e2 i hi
 simp only [List.cons.injEq,and_true] at e
 have a:=h2 i hi
 rw [e] at a
 exact a.uniq (h2' i (by omega))
theorem HEsts.uniq {l l' : List Est} (hl:HEsts p h v l) (hl' : HEsts p' h v l'):l=l':=by
 obtain ⟨C,A,h1,h2⟩:=hl
 obtain ⟨C',A',h1',h2'⟩:=hl'
 obtain ⟨e1,e2⟩:=h1.uniq h1'
 refine list_ext e1 fun i hi=>?_
 have e:=e2 i hi
 have a:=h2 i hi
 have a':=h2' i (by omega)
 simp only [List.cons.injEq,and_true,B.bool.injEq,B.str.injEq] at e
 obtain ⟨f1,f2,f3,f4,f5⟩:=e
 rw [f4,f5] at a
 have g1:=a.1.uniq a'.1
 have g2:=a.2.uniq a'.2
 clear h1 h2 h1' h2' e2
 generalize ix l i=x at *
 generalize ix l' i=y at *
 obtain ⟨⟨x1,x2,x3⟩,x4,x5⟩:=x
 obtain ⟨⟨y1,y2,y3⟩,y4,y5⟩:=y
 simp_all
theorem HDbts.uniq {l l' : List Dbt} (hl:HDbts p h v l) (hl' : HDbts p' h v l'):l=l':=by
 obtain ⟨L,h1,h2⟩:=hl
 obtain ⟨L',h1',h2'⟩:=hl'
 obtain ⟨e1,e2⟩:=h1.uniq h1'
 refine list_ext e1 fun i hi=>?_
 have e:=e2 i hi
 have a:=h2 i hi
 have a':=h2' i (by omega)
 simp only [List.cons.injEq,and_true,B.bool.injEq,B.str.injEq] at e
 obtain ⟨f1,f2,f3,f4⟩:=e
 rw [f4] at a
 have g1:=a.uniq a'
 clear h1 h2 h1' h2' e2
 generalize ix l i=x at *
 generalize ix l' i=y at *
 obtain ⟨⟨x1,x2,x3⟩,x4⟩:=x
 obtain ⟨⟨y1,y2,y3⟩,y4⟩:=y
 simp_all
theorem HGrp.uniq {g g' : Grp} (hl:HGrp p h ev dv g) (hl' : HGrp p' h ev dv g'):g=g':=by
 have h1:=hl.e.uniq hl'.e
 have h2:=hl.d.uniq hl'.d
 obtain ⟨a,b⟩:=g
 obtain ⟨c,d⟩:=g'
 simp_all
end
/-! ### What it says of a world -/
end Go.Proofs.Xe
namespace Go.Proofs.Ins
open Go.RowKit
def V8.v (v:V8):Value:=.agg #[.int .i64 v.p,.bool v.a.n,.string v.a.s,.string v.a.d,.bool v.k.n,.string v.k.s,.string v.k.d,.bool v.x]
def V8.fits (v:V8) (k:Nat):Prop:=v.a.fits k∧v.k.fits k
theorem sign_r3 (r:R3) (w:World) (h:r.fits 268435456) :
  Calls Tryz.prog 127 #[.agg #[.bool r.n,.string r.s,.string r.d]] w fun e w'=>e = .returned (.int .i64 (sg r.q))∧Below w.heap.size w w':=sign_rat r.n r.s r.d w h.1 h.2
def anyB (p:Nat→Bool) (n:Nat):Bool:=(List.range n).any p
theorem anyB_false {p:Nat→Bool} {n:Nat} (h : ∀ i,i<n→p i=false):anyB p n=false:=by
 unfold anyB;rw [List.any_eq_false];intro x hx;rw [h x (by simpa using hx)];simp
theorem anyB_true {p:Nat→Bool} {n i:Nat} (hi:i<n) (h:p i=true):anyB p n=true:=by
 unfold anyB;rw [List.any_eq_true];exact ⟨i,by simpa using hi,h⟩
def RetIx (w:World) (b:Bool) (e:Ending) (w' : World):Prop:=∃ i:Int,e = .returned (.int .i64 i)∧decide (0≤i)=b∧Below w.heap.size w w'
theorem rsign_r3 (r:R3) (w:World) (h:r.fits 134217728) :
  Calls Tryz.prog 81 #[.agg #[.bool r.n,.string r.s,.string r.d]] w fun e w'=>e = .returned (.int .i64 (sg r.q))∧Below w.heap.size w w':=rsign_any r.n r.s r.d w h.1 h.2
theorem all_next {p:Nat→Prop} {k:Nat} (h : ∀ i,i<k→p i) (h2:p k) : ∀ i,i<k+1→p i:=fun i hi=>by
 by_cases e:i=k
 ·rw [e];exact h2
 ·exact h i (by omega)
theorem memT_false {t:Tier} {c:Int} (h : ∀ i,i<t.length→(ix t i).k≠c):memT t c=false:=Bool.eq_false_iff.mpr fun h2=>by
 obtain ⟨i,hi,e⟩:=memT_ix.mp h2
 exact h i hi e
theorem memA_false {t:Agr} {c:Int} (h : ∀ i,i<t.length→memT (ix t i) c=false):memA t c=false:=Bool.eq_false_iff.mpr fun h2=>by
 obtain ⟨i,hi,e⟩:=memA_ix.mp h2
 rw [h i hi] at e;cases e
theorem Sl.cellAt {w w' : World} {p:Nat→Prop} {sz n:Nat} {a:Option Addr} {cap:Nat} {G:Nat→List Value} (h:Sl w p sz (.slice a n cap) n G) {b off:Nat} (ha:a=some ⟨b,off,none⟩) (k:Below w.heap.size w w') {i j:Nat} (hi:i<n) (hj:j<sz) :
  w'.cell? ⟨b,off+i*sz+j,none⟩=(G i)[j]?:=by
 obtain ⟨b',off',ha',-,hl,hr⟩:=h.get (by omega)
 rw [ha] at ha'
 simp only [Option.some.injEq,Addr.mk.injEq,and_true] at ha'
 obtain ⟨rfl,rfl⟩:=ha'
 exact (hr.below k hl) i j hi hj
set_option maxRecDepth 100000 in
theorem member_any (p:Nat→Prop) (v:Value) (a:Agr) (c:Int) (w:World) (hA:RTiers w p v a) (la:a.length≤140737488351232) (lp : ∀ i,i<a.length→(ix a i).length≤140737488351232) :
  Calls Tryz.prog 219 #[.agg #[v],.int .i64 c] w fun e w'=>e = .returned (.bool (memA a c))∧Below w.heap.size w w':=by
 obtain ⟨G,hS,hQ⟩:=hA
 obtain ⟨aa,cap,rfl,-,-⟩:=hS.form
 have HYES:=Lib.hid (fun i (h:i<a.length) (h2:memT (ix a i) c=true)=>memA_ix.mpr ⟨i,h,h2⟩)
 have HNO:=Lib.hid (fun h=>memA_false (t:=a) (c:=c) h)
 have HS:=Lib.hid hS
 have HQ:=Lib.hid hQ
 have HLP:=Lib.hid lp
 generalize hT:memA a c=T at *
 clear hT hS hQ lp
 generalize hn:a.length=n at *
 go_enter Tryz.func219,Tryz.ntmps219
 go_wp2_with fail
 refine wp_forget (fun W=>Blk W w.heap.size #[.slice aa n cap]∧Below w.heap.size w W) ⟨Blk.new _ _ _,(Below.refl _ _).alloc (Nat.le_refl _) _⟩ ?_
 rintro W ⟨hb0,hbel⟩
 have k0:W.cell? ⟨w.heap.size,0,none⟩=some (.slice aa n cap):=hb0.cell 0
 have HB:=Lib.hid hbel
 clear hbel hb0
 go_loopw [5,6] (fun i _ wr=>∃ k:Nat,i = .int .i64 k∧k≤n∧wr=W∧Hid (∀ i,i<k→memT (ix a i) c=false)) (fun i _ _=>n - (intOf i).toNat)
 case atStart=>exact ⟨0,rfl,by omega,rfl,fun i hi=>by omega⟩
 case round =>
  obtain ⟨k,rfl,hk,rfl,hs⟩:=hrel
  by_cases hlt:k<n
  ·obtain ⟨b,off,rfl,-,-,-⟩:=HS.out.get (by omega)
   have c0:=HS.out.cellAt rfl HB.out (i:=k) (j:=0) hlt (by omega)
   obtain ⟨v2,hG,hR⟩:=HQ.out k hlt
   obtain ⟨a2,cap2,rfl,-,-⟩:=hR.plain.form
   rw [hG,Nat.mul_one,Nat.add_zero] at c0
   have c1:wr.cell? ⟨b,off+k,none⟩=some (.slice a2 (ix a k).length cap2):=c0
   have l2:=HLP.out k hlt
   have HP:=Lib.hid hR.plain
   have HY2:=Lib.hid (fun j (h:j<(ix a k).length) (h2:(ix (ix a k) j).k=c)=>HYES.out k hlt (memT_ix.mpr ⟨j,h,h2⟩))
   have HN2:=Lib.hid (fun h=>memT_false (t:=ix a k) (c:=c) h)
   have i1:(0:Int)≤(k:Int):=by omega
   have i2:(k:Int)<(n:Int):=by omega
   have HSN:=Lib.hid (fun h=>all_next (p:=fun i=>memT (ix a i) c=false) hs.out h)
   clear c0 hR hG hs
   generalize hT2:memT (ix a k) c=T2 at *
   generalize hn2:(ix a k).length=n2 at *
   generalize hak:ix a k=ak at *
   clear hT2 hak
   go_wp2_with fail
   go_loopw [6] (fun i wr'=>∃ j:Nat,i = .int .i64 j∧j≤n2∧wr' = wr∧Hid (∀ i,i<j→(ix ak i).k≠c)) (fun i _=>n2 - (intOf i).toNat)
   case atStart=>exact ⟨0,rfl,by omega,rfl,fun i hi=>by omega⟩
   case round =>
    obtain ⟨j,rfl,hj,rfl,hs2⟩:=hrel
    by_cases hlj:j<n2
    ·obtain ⟨b2,off2,rfl,-,-,-⟩:=HP.out.get (by omega)
     have d0:=HP.out.cellAt rfl HB.out (i:=j) (j:=0) hlj (by omega)
     rw [Nat.add_zero] at d0
     have d1:=(show _=some (Value.int .i64 (ix ak j).k) from d0)
     have j1:(0:Int)≤(j:Int):=by omega
     have j2:(j:Int)<(n2:Int):=by omega
     have HYJ:=Lib.hid (HY2.out j hlj)
     have HSJ:=Lib.hid (fun h=>all_next (p:=fun i=>(ix ak i).k≠c) hs2.out h)
     clear d0 hs2
     generalize (ix ak j).k=x at *
     by_cases hx:x=c
     ·subst hx
      have HR:=Lib.hid (HYJ.out rfl)
      go_wp2
      go_ret
      exact ⟨ret_bool HR.out.symm,HB.out⟩
     ·have hx2:(x == c)=false:=by simp [hx]
      have HSK:=Lib.hid (HSJ.out hx)
      go_wp2
      go_roundw
      case rel=>exact ⟨j+1,by go_num,by omega,by simp,HSK.out⟩
      case measure=>simp [intOf];omega
    ·obtain rfl:j=n2:=by omega
     have HZ:=Lib.hid (HSN.out (HN2.out hs2.out))
     have hnl:decide ((j:Int)<(j:Int))=false:=by simp
     go_wp2
     go_roundw
     case rel=>exact ⟨k+1,by go_num,by omega,by simp,HZ.out⟩
     case measure=>simp [intOf];omega
  ·obtain rfl:k=n:=by omega
   have HZ:=Lib.hid (HNO.out hs.out)
   have hnl:decide ((k:Int)<(k:Int))=false:=by simp
   go_wp2
   go_ret
   exact ⟨ret_bool HZ.out.symm,HB.out⟩
theorem Blk.c5 {w:World} {b:Nat} {v0 v1 v2 v3 v4:Value} (h:Blk w b #[v0,v1,v2,v3,v4]) :
  w.cell? ⟨b,0,none⟩=some v0∧w.cell? ⟨b,1,none⟩=some v1∧w.cell? ⟨b,2,none⟩=some v2∧w.cell? ⟨b,3,none⟩=some v3∧w.cell? ⟨b,4,none⟩=some v4 :=
 ⟨h.cell 0,h.cell 1,h.cell 2,h.cell 3,h.cell 4⟩
def Est.v (e:Est) (cv av:Value):Value:=.agg #[.bool e.m.n,.string e.m.s,.string e.m.d,cv,av]
set_option maxRecDepth 100000 in
theorem earlier_any (p:Nat→Prop) (x0 x1 x2 cv av:Value) (l:List Agr) (k:Nat) (c:Int) (w:World) (hA:RAgrs w p av l) (hk:k≤l.length) (lt : ∀ i,i<l.length→(ix l i).length≤140737488351232) (lp : ∀ i j,i<l.length→j<(ix l i).length→(ix (ix l i) j).length≤140737488351232) (hl:l.length≤140737488351232) :
  Calls Tryz.prog 181 #[.agg #[x0,x1,x2,cv,av],.int .i64 (k:Int),.int .i64 c] w fun e w'=>e = .returned (.bool (earA l k c))∧Below w.heap.size w w':=by
 obtain ⟨G,hS,hQ⟩:=hA
 obtain ⟨aa,cap,rfl,-,-⟩:=hS.form
 have HS:=Lib.hid hS
 have HQ:=Lib.hid hQ
 have HM:=Lib.hid (fun i (h:i<l.length) v w (hR:RTiers w p v (ix l i))=>member_any p v (ix l i) c w hR (lt i h) (lp i · h))
 have HE:=Lib.hid (fun i (h:i<l.length)=>earA_succ h c)
 have HZ:=Lib.hid (earA_zero l c)
 have HYES:=Lib.hid (fun i (h:i<k) (h2:memA (ix l i) c=true)=>(show earA l k c=true by
  unfold earA;rw [List.any_eq_true];refine ⟨_,?_,h2⟩;rw [← ix_take h];exact ix_mem (by rw [List.length_take];omega)))
 clear hS hQ lt lp
 generalize hT:earA l k c=T at *
 have HT:=Lib.hid hT
 generalize hmm:(fun i=>memA (ix l i) c)=MM at *
 have HMM:=Lib.hid hmm
 clear hT hmm
 generalize hn:l.length=n at *
 go_enter Tryz.func181,Tryz.ntmps181
 go_wp2_with fail
 refine wp_forget (fun W=>Blk W w.heap.size #[x0,x1,x2,cv,.slice aa n cap]∧Below w.heap.size w W) ⟨Blk.new _ _ _,(Below.refl _ _).alloc (Nat.le_refl _) _⟩ ?_
 rintro W ⟨hb0,hbel⟩
 have J:=Lib.hid hb0
 have HB:=Lib.hid hbel
 clear hbel hb0
 go_loopw [7] (fun i wr=>∃ j:Nat,i = .int .i64 j∧j≤k∧Blk wr w.heap.size #[x0,x1,x2,cv,.slice aa n cap]∧Below w.heap.size w wr∧Hid (earA l j c=false)) (fun i _=>k - (intOf i).toNat)
 case atStart=>exact ⟨0,rfl,by omega,J.out,HB.out,HZ.out⟩
 case round =>
  obtain ⟨j,rfl,hj,J,hbel,hs⟩:=hrel
  have J:=Lib.hid J
  have HB:=Lib.hid hbel
  by_cases hlt:j<k
  ·obtain ⟨b,off,rfl,-,-,-⟩:=HS.out.get (by omega)
   have c0:=HS.out.cellAt rfl HB.out (i:=j) (j:=0) (by omega) (by omega)
   obtain ⟨v2,hG,hR⟩:=HQ.out j (by omega)
   rw [hG,Nat.mul_one,Nat.add_zero] at c0
   have c1:wr.cell? ⟨b,off+j,none⟩=some v2:=c0
   have HC:=Lib.hid (HM.out j (by omega) v2 wr (hR.on HB.out))
   have HEJ:=Lib.hid (HE.out j (by omega))
   have HYJ:=Lib.hid (HYES.out j hlt)
   obtain ⟨-,-,-,-,k4⟩:=J.out.c5
   have i1:(0:Int)≤(j:Int):=by omega
   have i2:(j:Int)<(k:Int):=by omega
   have i3:(j:Int)<(n:Int):=by omega
   clear c0 hG hR HM HYES HE HQ
   generalize memA (ix l j) c=mb at *
   go_wp2_with fail
   refine HC.out.mono ?_;rintro e w3 ⟨rfl,hb3⟩
   have J:=Lib.hid (J.out.on hb3)
   have HB:=Lib.hid (chain HB.out hb3 (Nat.le_refl _))
   clear hb3
   cases mb
   ·have HF:=Lib.hid (show earA l (j+1) c=false by rw [HEJ.out,hs.out];rfl)
    clear k4 c1
    go_wp2
    go_roundw
    case rel=>exact ⟨j+1,by go_num,by omega,J.out,HB.out,HF.out⟩
    case measure=>simp [intOf];omega
   ·have HR:=Lib.hid (HYJ.out rfl)
    clear k4 c1
    go_wp2
    go_ret
    exact ⟨ret_bool HR.out.symm,HB.out⟩
  ·obtain rfl:j=k:=by omega
   have HR:=Lib.hid (show T=false by rw [← HT.out];exact hs.out)
   have hnl:decide ((j:Int)<(j:Int))=false:=by simp
   go_wp2
   go_ret
   exact ⟨ret_bool HR.out.symm,HB.out⟩
end Go.Proofs.Ins
