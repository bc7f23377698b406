/- The walk of insolvencyref17.agreement. -/
import Derived.Test.YtiaefgffeekfkaaGreatDoorZ23
set_option linter.unusedSimpArgs false
set_option linter.unusedVariables false
set_option maxHeartbeats 8000000
namespace Go.Proofs.Xe
open Go.RowKit Go.Proofs.Ins
def HLp (p:Nat→Prop) (h:Tr Bk) (e:Nat) (v:B) (n:Nat) (G:Nat→List B):Prop :=
 (n=0∧v = .nils)∨∃ b o c,v = .sl b o n c∧(0<n→p b)∧∀ i,i<n→ld h b (o+i*e) e true=some (.agg (G i))
section
variable {p q:Nat→Prop} {h h' : Tr Bk} {e n:Nat} {v:B} {G:Nat→List B}
theorem HLp.hl (hl:HLp p h e v n G):HL h e v n G:=by
 rcases hl with h | ⟨b,o,c,h1,h2,h3⟩
 ·exact .inl h
 ·exact .inr ⟨b,o,c,h1,h3⟩
theorem HL.hlp (hl:HL h e v n G):HLp (fun _=>True) h e v n G:=by
 rcases hl with h | ⟨b,o,c,h1,h3⟩
 ·exact .inl h
 ·exact .inr ⟨b,o,c,h1,fun _=>trivial,h3⟩
theorem HLp.len (hl:HLp p h e v n G):lenV (.c v)=some (.c (.int .i64 (.ofNat n))):=hl.hl.len
theorem HLp.kn (hl:HLp p h e v n G):v.kn=true:=hl.hl.kn
theorem HLp.pos (hl:HLp p h e v n G) (hn:0<n) : ∃ b o c,v = .sl b o n c∧p b∧∀ i,i<n→ld h b (o+i*e) e true=some (.agg (G i)):=by
 rcases hl with ⟨rfl,-⟩ | ⟨b,o,c,h1,h2,h3⟩
 ·omega
 ·exact ⟨b,o,c,h1,h2 hn,h3⟩
theorem HLp.keep (hl:HLp p h e v n G) (hk : ∀ b,p b→h' b=h b) (hp : ∀ b,p b→q b):HLp q h' e v n G:=by
 rcases hl with h1 | ⟨b,o,c,h1,h2,h3⟩
 ·exact .inl h1
 ·refine .inr ⟨b,o,c,h1,fun h=>hp _ (h2 h),fun i hi=>?_⟩
  have:=h3 i hi
  unfold ld at this ⊢
  rw [hk b (h2 (by omega))]; exact this
theorem HLp.congr {G' : Nat→List B} (hl:HLp p h e v n G) (hg : ∀ i,i<n→G i=G' i):HLp p h e v n G':=by
 rcases hl with h1 | ⟨b,o,c,h1,h2,h3⟩
 ·exact .inl h1
 ·exact .inr ⟨b,o,c,h1,h2,fun i hi=>by rw [← hg i hi]; exact h3 i hi⟩
theorem HLp.nil:HLp p h e .nils 0 G:=.inl ⟨rfl,rfl⟩
theorem HLp.uniq {n' : Nat} {G' : Nat→List B} {p' : Nat→Prop} (hl:HLp p h e v n G) (hl' : HLp p' h e v n' G'):n=n'∧∀ i,i<n→G i=G' i:=by
 rcases hl with ⟨rfl,rfl⟩ | ⟨b,o,c,rfl,h2,h3⟩
 ·rcases hl' with ⟨rfl,-⟩ | ⟨b,o,c,h1,-⟩
  ·exact ⟨rfl,fun i hi=>by omega⟩
  ·cases h1
 ·rcases hl' with ⟨-,h1⟩ | ⟨b',o',c',h1,h2',h3'⟩
  ·cases h1
  ·cases h1
   refine ⟨rfl,fun i hi=>?_⟩
   have a:=h3 i hi
   rw [h3' i hi] at a
   exact (V.agg.inj (Option.some.inj a)).symm
end
def c5B (x:C5):List B:=[.int .i64 x.h,.int .i64 x.r,.bool x.a.n,.str x.a.s,.str x.a.d]
def prtB (x:Prt):List B:=[.int .i64 x.k,.bool x.b,.bool x.a.n,.str x.a.s,.str x.a.d]
def lgB (x:Ins.Lg):List B:=[.int .i64 x.e,.int .i64 x.k]
def HClaims (p:Nat→Prop) (h:Tr Bk) (v:B) (l:List C5):Prop:=HLp p h 5 v l.length fun i=>c5B (ix l i)
def HParts (p:Nat→Prop) (h:Tr Bk) (v:B) (l:List Prt):Prop:=HLp p h 5 v l.length fun i=>prtB (ix l i)
def HLegs (p:Nat→Prop) (h:Tr Bk) (v:B) (l:List Ins.Lg):Prop:=HLp p h 2 v l.length fun i=>lgB (ix l i)
def HTiers (p:Nat→Prop) (h:Tr Bk) (v:B) (l:Agr):Prop:=∃ T:Nat→B,HLp p h 1 v l.length (fun i=>[T i])∧∀ i,i<l.length→HParts p h (T i) (ix l i)
def HAgrs (p:Nat→Prop) (h:Tr Bk) (v:B) (l:List Agr):Prop:=∃ T:Nat→B,HLp p h 1 v l.length (fun i=>[T i])∧∀ i,i<l.length→HTiers p h (T i) (ix l i)
def HEsts (p:Nat→Prop) (h:Tr Bk) (v:B) (l:List Est):Prop:=∃ C A:Nat→B,HLp p h 5 v l.length (fun i=>[.bool (ix l i).m.n,.str (ix l i).m.s,.str (ix l i).m.d,C i,A i])∧∀ i,i<l.length→HClaims p h (C i) (ix l i).c∧HAgrs p h (A i) (ix l i).a
def HDbts (p:Nat→Prop) (h:Tr Bk) (v:B) (l:List Dbt):Prop:=∃ L:Nat→B,HLp p h 4 v l.length (fun i=>[.bool (ix l i).w.n,.str (ix l i).w.s,.str (ix l i).w.d,L i])∧∀ i,i<l.length→HLegs p h (L i) (ix l i).l
structure HGrp (p:Nat→Prop) (h:Tr Bk) (ev dv:B) (g:Grp):Prop where
 e:HEsts p h ev g.e
 d:HDbts p h dv g.d
section
variable {p q p' : Nat→Prop} {h h' : Tr Bk} {v ev dv:B}
theorem HTiers.keep {l:Agr} (hl:HTiers p h v l) (hk : ∀ b,p b→h' b=h b) (hp : ∀ b,p b→q b):HTiers q h' v l:=by
 obtain ⟨T,h1,h2⟩:=hl
 exact ⟨T,h1.keep hk hp,fun i hi=>(h2 i hi).keep hk hp⟩
theorem HAgrs.keep {l:List Agr} (hl:HAgrs p h v l) (hk : ∀ b,p b→h' b=h b) (hp : ∀ b,p b→q b):HAgrs q h' v l:=by
 obtain ⟨T,h1,h2⟩:=hl
 exact ⟨T,h1.keep hk hp,fun i hi=>(h2 i hi).keep hk hp⟩
theorem HEsts.keep {l:List Est} (hl:HEsts p h v l) (hk : ∀ b,p b→h' b=h b) (hp : ∀ b,p b→q b):HEsts q h' v l:=by
 obtain ⟨C,A,h1,h2⟩:=hl
 exact ⟨C,A,h1.keep hk hp,fun i hi=>⟨(h2 i hi).1.keep hk hp,(h2 i hi).2.keep hk hp⟩⟩
theorem HDbts.keep {l:List Dbt} (hl:HDbts p h v l) (hk : ∀ b,p b→h' b=h b) (hp : ∀ b,p b→q b):HDbts q h' v l:=by
 obtain ⟨L,h1,h2⟩:=hl
 exact ⟨L,h1.keep hk hp,fun i hi=>(h2 i hi).keep hk hp⟩
theorem HGrp.keep {g:Grp} (hg:HGrp p h ev dv g) (hk : ∀ b,p b→h' b=h b) (hp : ∀ b,p b→q b):HGrp q h' ev dv g:=⟨hg.e.keep hk hp,hg.d.keep hk hp⟩
theorem list_ext {α:Type} [Inhabited α] {l l' : List α} (hn:l.length=l'.length) (h : ∀ i,i<l.length→ix l i=ix l' i):l=l':=by
 apply List.ext_getElem hn
 intro i h1 h2
 have:=h i h1
 rw [ix_lt h1,ix_lt h2] at this
 exact this
theorem HClaims.uniq {l l' : List C5} (hl:HClaims p h v l) (hl' : HClaims p' h v l'):l=l':=by
 obtain ⟨h1,h2⟩:=HLp.uniq hl hl'
 refine list_ext h1 fun i hi=>?_
 have e:=h2 i hi
 generalize ix l i=x at *
 generalize ix l' i=y at *
 obtain ⟨x1,x2,x3,x4,x5⟩:=x
 obtain ⟨y1,y2,y3,y4,y5⟩:=y
 simp [c5B] at e
 obtain ⟨rfl,rfl,rfl,rfl,rfl⟩:=e
 rfl
theorem HParts.uniq {l l' : List Prt} (hl:HParts p h v l) (hl' : HParts p' h v l'):l=l':=by
 obtain ⟨h1,h2⟩:=HLp.uniq hl hl'
 refine list_ext h1 fun i hi=>?_
 have e:=h2 i hi
 generalize ix l i=x at *
 generalize ix l' i=y at *
 obtain ⟨x1,x2,x3,x4,x5⟩:=x
 obtain ⟨y1,y2,y3,y4,y5⟩:=y
 simp [prtB] at e
 obtain ⟨rfl,rfl,rfl,rfl,rfl⟩:=e
 rfl
theorem HLegs.uniq {l l' : List Ins.Lg} (hl:HLegs p h v l) (hl' : HLegs p' h v l'):l=l':=by
 obtain ⟨h1,h2⟩:=HLp.uniq hl hl'
 refine list_ext h1 fun i hi=>?_
 have e:=h2 i hi
 generalize ix l i=x at *
 generalize ix l' i=y at *
 obtain ⟨x1,x2⟩:=x
 obtain ⟨y1,y2⟩:=y
 simp [lgB] at e
 obtain ⟨rfl,rfl⟩:=e
 rfl
theorem HTiers.uniq {l l' : Agr} (hl:HTiers p h v l) (hl' : HTiers p' h v l'):l=l':=by
 obtain ⟨T,h1,h2⟩:=hl
 obtain ⟨T',h1',h2'⟩:=hl'
 obtain ⟨e1,e2⟩:=h1.uniq h1'
 refine list_ext e1 fun i hi=>?_
 have e:=e2 i hi
 simp only [List.cons.injEq,and_true] at e
 have a:=h2 i hi
 rw [e] at a
 exact a.uniq (h2' i (by omega))
theorem HAgrs.uniq {l l' : List Agr} (hl:HAgrs p h v l) (hl' : HAgrs p' h v l'):l=l':=by
 obtain ⟨T,h1,h2⟩:=hl
 obtain ⟨T',h1',h2'⟩:=hl'
 obtain ⟨e1,e2⟩:=h1.uniq h1'
 refine list_ext e1 fun i hi=>?_
 have e:=e2 i hi
 simp only [List.cons.injEq,and_true] at e
 have a:=h2 i hi
 rw [e] at a
 exact a.uniq (h2' i (by omega))
theorem HEsts.uniq {l l' : List Est} (hl:HEsts p h v l) (hl' : HEsts p' h v l'):l=l':=by
 obtain ⟨C,A,h1,h2⟩:=hl
 obtain ⟨C',A',h1',h2'⟩:=hl'
 obtain ⟨e1,e2⟩:=h1.uniq h1'
 refine list_ext e1 fun i hi=>?_
 have e:=e2 i hi
 have a:=h2 i hi
 have a':=h2' i (by omega)
 simp only [List.cons.injEq,and_true,B.bool.injEq,B.str.injEq] at e
 obtain ⟨f1,f2,f3,f4,f5⟩:=e
 rw [f4,f5] at a
 have g1:=a.1.uniq a'.1
 have g2:=a.2.uniq a'.2
 clear h1 h2 h1' h2' e2
 generalize ix l i=x at *
 generalize ix l' i=y at *
 obtain ⟨⟨x1,x2,x3⟩,x4,x5⟩:=x
 obtain ⟨⟨y1,y2,y3⟩,y4,y5⟩:=y
 simp_all
theorem HDbts.uniq {l l' : List Dbt} (hl:HDbts p h v l) (hl' : HDbts p' h v l'):l=l':=by
 obtain ⟨L,h1,h2⟩:=hl
 obtain ⟨L',h1',h2'⟩:=hl'
 obtain ⟨e1,e2⟩:=h1.uniq h1'
 refine list_ext e1 fun i hi=>?_
 have e:=e2 i hi
 have a:=h2 i hi
 have a':=h2' i (by omega)
 simp only [List.cons.injEq,and_true,B.bool.injEq,B.str.injEq] at e
 obtain ⟨f1,f2,f3,f4⟩:=e
 rw [f4] at a
 have g1:=a.uniq a'
 clear h1 h2 h1' h2' e2
 generalize ix l i=x at *
 generalize ix l' i=y at *
 obtain ⟨⟨x1,x2,x3⟩,x4⟩:=x
 obtain ⟨⟨y1,y2,y3⟩,y4⟩:=y
 simp_all
theorem HGrp.uniq {g g' : Grp} (hl:HGrp p h ev dv g) (hl' : HGrp p' h ev dv g'):g=g':=by
 have h1:=hl.e.uniq hl'.e
 have h2:=hl.d.uniq hl'.d
 obtain ⟨a,b⟩:=g
 obtain ⟨c,d⟩:=g'
 simp_all
end
/-! ### What it says of a world -/
end Go.Proofs.Xe
namespace Go.Proofs.Ins
open Go.RowKit
def V8.v (v:V8):Value:=.agg #[.int .i64 v.p,.bool v.a.n,.string v.a.s,.string v.a.d,.bool v.k.n,.string v.k.s,.string v.k.d,.bool v.x]
def V8.fits (v:V8) (k:Nat):Prop:=v.a.fits k∧v.k.fits k
theorem sign_r3 (r:R3) (w:World) (h:r.fits 268435456) :
  Calls Tryz.prog 127 #[.agg #[.bool r.n,.string r.s,.string r.d]] w fun e w'=>e = .returned (.int .i64 (sg r.q))∧Below w.heap.size w w':=sign_rat r.n r.s r.d w h.1 h.2
def anyB (p:Nat→Bool) (n:Nat):Bool:=(List.range n).any p
theorem anyB_false {p:Nat→Bool} {n:Nat} (h : ∀ i,i<n→p i=false):anyB p n=false:=by
 unfold anyB; rw [List.any_eq_false]; intro x hx; rw [h x (by simpa using hx)]; simp
theorem anyB_true {p:Nat→Bool} {n i:Nat} (hi:i<n) (h:p i=true):anyB p n=true:=by
 unfold anyB; rw [List.any_eq_true]; exact ⟨i,by simpa using hi,h⟩
def RetIx (w:World) (b:Bool) (e:Ending) (w' : World):Prop:=∃ i:Int,e = .returned (.int .i64 i)∧decide (0≤i)=b∧Below w.heap.size w w'
theorem rsign_r3 (r:R3) (w:World) (h:r.fits 134217728) :
  Calls Tryz.prog 81 #[.agg #[.bool r.n,.string r.s,.string r.d]] w fun e w'=>e = .returned (.int .i64 (sg r.q))∧Below w.heap.size w w':=rsign_any r.n r.s r.d w h.1 h.2
theorem all_next {p:Nat→Prop} {k:Nat} (h : ∀ i,i<k→p i) (h2:p k) : ∀ i,i<k+1→p i:=fun i hi=>by
 by_cases e:i=k
 ·rw [e]; exact h2
 ·exact h i (by omega)
theorem memT_false {t:Tier} {c:Int} (h : ∀ i,i<t.length→(ix t i).k≠c):memT t c=false:=Bool.eq_false_iff.mpr fun h2=>by
 obtain ⟨i,hi,e⟩:=memT_ix.mp h2
 exact h i hi e
theorem memA_false {t:Agr} {c:Int} (h : ∀ i,i<t.length→memT (ix t i) c=false):memA t c=false:=Bool.eq_false_iff.mpr fun h2=>by
 obtain ⟨i,hi,e⟩:=memA_ix.mp h2
 rw [h i hi] at e; cases e
theorem Sl.cellAt {w w' : World} {p:Nat→Prop} {sz n:Nat} {a:Option Addr} {cap:Nat} {G:Nat→List Value} (h:Sl w p sz (.slice a n cap) n G) {b off:Nat} (ha:a=some ⟨b,off,none⟩) (k:Below w.heap.size w w') {i j:Nat} (hi:i<n) (hj:j<sz) :
  w'.cell? ⟨b,off+i*sz+j,none⟩=(G i)[j]?:=by
 obtain ⟨b',off',ha',-,hl,hr⟩:=h.get (by omega)
 rw [ha] at ha'
 simp only [Option.some.injEq,Addr.mk.injEq,and_true] at ha'
 obtain ⟨rfl,rfl⟩:=ha'
 exact (hr.below k hl) i j hi hj
set_option maxRecDepth 100000 in
theorem member_any (p:Nat→Prop) (v:Value) (a:Agr) (c:Int) (w:World) (hA:RTiers w p v a) (la:a.length≤140737488351232) (lp : ∀ i,i<a.length→(ix a i).length≤140737488351232) :
  Calls Tryz.prog 219 #[.agg #[v],.int .i64 c] w fun e w'=>e = .returned (.bool (memA a c))∧Below w.heap.size w w':=by
 obtain ⟨G,hS,hQ⟩:=hA
 obtain ⟨aa,cap,rfl,-,-⟩:=hS.form
 have HYES:=Lib.hid (fun i (h:i<a.length) (h2:memT (ix a i) c=true)=>memA_ix.mpr ⟨i,h,h2⟩)
 have HNO:=Lib.hid (fun h=>memA_false (t:=a) (c:=c) h)
 have HS:=Lib.hid hS
 have HQ:=Lib.hid hQ
 have HLP:=Lib.hid lp
 generalize hT:memA a c=T at *
 clear hT hS hQ lp
 generalize hn:a.length=n at *
 go_enter Tryz.func219,Tryz.ntmps219
 go_wp2_with fail
 refine wp_forget (fun W=>Blk W w.heap.size #[.slice aa n cap]∧Below w.heap.size w W) ⟨Blk.new _ _ _,(Below.refl _ _).alloc (Nat.le_refl _) _⟩ ?_
 rintro W ⟨hb0,hbel⟩
 have k0:W.cell? ⟨w.heap.size,0,none⟩=some (.slice aa n cap):=hb0.cell 0
 have HB:=Lib.hid hbel
 clear hbel hb0
 go_loopw [5,6] (fun i _ wr=>∃ k:Nat,i = .int .i64 k∧k≤n∧wr=W∧Hid (∀ i,i<k→memT (ix a i) c=false)) (fun i _ _=>n - (intOf i).toNat)
 case atStart=>exact ⟨0,rfl,by omega,rfl,fun i hi=>by omega⟩
 case round =>
  obtain ⟨k,rfl,hk,rfl,hs⟩:=hrel
  by_cases hlt:k<n
  ·obtain ⟨b,off,rfl,-,-,-⟩:=HS.out.get (by omega)
   have c0:=HS.out.cellAt rfl HB.out (i:=k) (j:=0) hlt (by omega)
   obtain ⟨v2,hG,hR⟩:=HQ.out k hlt
   obtain ⟨a2,cap2,rfl,-,-⟩:=hR.plain.form
   rw [hG,Nat.mul_one,Nat.add_zero] at c0
   have c1:wr.cell? ⟨b,off+k,none⟩=some (.slice a2 (ix a k).length cap2):=c0
   have l2:=HLP.out k hlt
   have HP:=Lib.hid hR.plain
   have HY2:=Lib.hid (fun j (h:j<(ix a k).length) (h2:(ix (ix a k) j).k=c)=>HYES.out k hlt (memT_ix.mpr ⟨j,h,h2⟩))
   have HN2:=Lib.hid (fun h=>memT_false (t:=ix a k) (c:=c) h)
   have i1:(0:Int)≤(k:Int):=by omega
   have i2:(k:Int)<(n:Int):=by omega
   have HSN:=Lib.hid (fun h=>all_next (p:=fun i=>memT (ix a i) c=false) hs.out h)
   clear c0 hR hG hs
   generalize hT2:memT (ix a k) c=T2 at *
   generalize hn2:(ix a k).length=n2 at *
   generalize hak:ix a k=ak at *
   clear hT2 hak
   go_wp2_with fail
   go_loopw [6] (fun i wr'=>∃ j:Nat,i = .int .i64 j∧j≤n2∧wr' = wr∧Hid (∀ i,i<j→(ix ak i).k≠c)) (fun i _=>n2 - (intOf i).toNat)
   case atStart=>exact ⟨0,rfl,by omega,rfl,fun i hi=>by omega⟩
   case round =>
    obtain ⟨j,rfl,hj,rfl,hs2⟩:=hrel
    by_cases hlj:j<n2
    ·obtain ⟨b2,off2,rfl,-,-,-⟩:=HP.out.get (by omega)
     have d0:=HP.out.cellAt rfl HB.out (i:=j) (j:=0) hlj (by omega)
     rw [Nat.add_zero] at d0
     have d1:=(show _=some (Value.int .i64 (ix ak j).k) from d0)
     have j1:(0:Int)≤(j:Int):=by omega
     have j2:(j:Int)<(n2:Int):=by omega
     have HYJ:=Lib.hid (HY2.out j hlj)
     have HSJ:=Lib.hid (fun h=>all_next (p:=fun i=>(ix ak i).k≠c) hs2.out h)
     clear d0 hs2
     generalize (ix ak j).k=x at *
     by_cases hx:x=c
     ·subst hx
      have HR:=Lib.hid (HYJ.out rfl)
      go_wp2
      go_ret
      exact ⟨ret_bool HR.out.symm,HB.out⟩
     ·have hx2:(x == c)=false:=by simp [hx]
      have HSK:=Lib.hid (HSJ.out hx)
      go_wp2
      go_roundw
      case rel=>exact ⟨j+1,by go_num,by omega,by simp,HSK.out⟩
      case measure=>simp [intOf]; omega
    ·obtain rfl:j=n2:=by omega
     have HZ:=Lib.hid (HSN.out (HN2.out hs2.out))
     have hnl:decide ((j:Int)<(j:Int))=false:=by simp
     go_wp2
     go_roundw
     case rel=>exact ⟨k+1,by go_num,by omega,by simp,HZ.out⟩
     case measure=>simp [intOf]; omega
  ·obtain rfl:k=n:=by omega
   have HZ:=Lib.hid (HNO.out hs.out)
   have hnl:decide ((k:Int)<(k:Int))=false:=by simp
   go_wp2
   go_ret
   exact ⟨ret_bool HZ.out.symm,HB.out⟩
theorem Blk.c5 {w:World} {b:Nat} {v0 v1 v2 v3 v4:Value} (h:Blk w b #[v0,v1,v2,v3,v4]) :
  w.cell? ⟨b,0,none⟩=some v0∧w.cell? ⟨b,1,none⟩=some v1∧w.cell? ⟨b,2,none⟩=some v2∧w.cell? ⟨b,3,none⟩=some v3∧w.cell? ⟨b,4,none⟩=some v4 :=
 ⟨h.cell 0,h.cell 1,h.cell 2,h.cell 3,h.cell 4⟩
def Est.v (e:Est) (cv av:Value):Value:=.agg #[.bool e.m.n,.string e.m.s,.string e.m.d,cv,av]
set_option maxRecDepth 100000 in
theorem earlier_any (p:Nat→Prop) (x0 x1 x2 cv av:Value) (l:List Agr) (k:Nat) (c:Int) (w:World) (hA:RAgrs w p av l) (hk:k≤l.length) (lt : ∀ i,i<l.length→(ix l i).length≤140737488351232) (lp : ∀ i j,i<l.length→j<(ix l i).length→(ix (ix l i) j).length≤140737488351232) (hl:l.length≤140737488351232) :
  Calls Tryz.prog 181 #[.agg #[x0,x1,x2,cv,av],.int .i64 (k:Int),.int .i64 c] w fun e w'=>e = .returned (.bool (earA l k c))∧Below w.heap.size w w':=by
 obtain ⟨G,hS,hQ⟩:=hA
 obtain ⟨aa,cap,rfl,-,-⟩:=hS.form
 have HS:=Lib.hid hS
 have HQ:=Lib.hid hQ
 have HM:=Lib.hid (fun i (h:i<l.length) v w (hR:RTiers w p v (ix l i))=>member_any p v (ix l i) c w hR (lt i h) (lp i · h))
 have HE:=Lib.hid (fun i (h:i<l.length)=>earA_succ h c)
 have HZ:=Lib.hid (earA_zero l c)
 have HYES:=Lib.hid (fun i (h:i<k) (h2:memA (ix l i) c=true)=>(show earA l k c=true by
  unfold earA; rw [List.any_eq_true]; refine ⟨_,?_,h2⟩; rw [← ix_take h]; exact ix_mem (by rw [List.length_take]; omega)))
 clear hS hQ lt lp
 generalize hT:earA l k c=T at *
 have HT:=Lib.hid hT
 generalize hmm:(fun i=>memA (ix l i) c)=MM at *
 have HMM:=Lib.hid hmm
 clear hT hmm
 generalize hn:l.length=n at *
 go_enter Tryz.func181,Tryz.ntmps181
 go_wp2_with fail
 refine wp_forget (fun W=>Blk W w.heap.size #[x0,x1,x2,cv,.slice aa n cap]∧Below w.heap.size w W) ⟨Blk.new _ _ _,(Below.refl _ _).alloc (Nat.le_refl _) _⟩ ?_
 rintro W ⟨hb0,hbel⟩
 have J:=Lib.hid hb0
 have HB:=Lib.hid hbel
 clear hbel hb0
 go_loopw [7] (fun i wr=>∃ j:Nat,i = .int .i64 j∧j≤k∧Blk wr w.heap.size #[x0,x1,x2,cv,.slice aa n cap]∧Below w.heap.size w wr∧Hid (earA l j c=false)) (fun i _=>k - (intOf i).toNat)
 case atStart=>exact ⟨0,rfl,by omega,J.out,HB.out,HZ.out⟩
 case round =>
  obtain ⟨j,rfl,hj,J,hbel,hs⟩:=hrel
  have J:=Lib.hid J
  have HB:=Lib.hid hbel
  by_cases hlt:j<k
  ·obtain ⟨b,off,rfl,-,-,-⟩:=HS.out.get (by omega)
   have c0:=HS.out.cellAt rfl HB.out (i:=j) (j:=0) (by omega) (by omega)
   obtain ⟨v2,hG,hR⟩:=HQ.out j (by omega)
   rw [hG,Nat.mul_one,Nat.add_zero] at c0
   have c1:wr.cell? ⟨b,off+j,none⟩=some v2:=c0
   have HC:=Lib.hid (HM.out j (by omega) v2 wr (hR.on HB.out))
   have HEJ:=Lib.hid (HE.out j (by omega))
   have HYJ:=Lib.hid (HYES.out j hlt)
   obtain ⟨-,-,-,-,k4⟩:=J.out.c5
   have i1:(0:Int)≤(j:Int):=by omega
   have i2:(j:Int)<(k:Int):=by omega
   have i3:(j:Int)<(n:Int):=by omega
   clear c0 hG hR HM HYES HE HQ
   generalize memA (ix l j) c=mb at *
   go_wp2_with fail
   refine HC.out.mono ?_; rintro e w3 ⟨rfl,hb3⟩
   have J:=Lib.hid (J.out.on hb3)
   have HB:=Lib.hid (chain HB.out hb3 (Nat.le_refl _))
   clear hb3
   cases mb
   ·have HF:=Lib.hid (show earA l (j+1) c=false by rw [HEJ.out,hs.out]; rfl)
    clear k4 c1
    go_wp2
    go_roundw
    case rel=>exact ⟨j+1,by go_num,by omega,J.out,HB.out,HF.out⟩
    case measure=>simp [intOf]; omega
   ·have HR:=Lib.hid (HYJ.out rfl)
    clear k4 c1
    go_wp2
    go_ret
    exact ⟨ret_bool HR.out.symm,HB.out⟩
  ·obtain rfl:j=k:=by omega
   have HR:=Lib.hid (show T=false by rw [← HT.out]; exact hs.out)
   have hnl:decide ((j:Int)<(j:Int))=false:=by simp
   go_wp2
   go_ret
   exact ⟨ret_bool HR.out.symm,HB.out⟩
theorem chkP_1 {n:Nat} {tk:Int→Bool} {x:Int} {b:Bool} {r:R3} (h:x < -1):chkP n tk ⟨x,b,r⟩=1:=by unfold chkP; rw [if_pos (.inl h)]
theorem chkP_2 {n:Nat} {tk:Int→Bool} {x:Int} {b:Bool} {r:R3} (h:(n:Int)≤x):chkP n tk ⟨x,b,r⟩=1:=by unfold chkP; rw [if_pos (.inr h)]
theorem chkP_3 {n:Nat} {tk:Int→Bool} {x:Int} {r:R3} (h1 : ¬ x < -1) (h2 : ¬ (n:Int)≤x) (h:x = -1):chkP n tk ⟨x,false,r⟩=21:=by unfold chkP; rw [if_neg (by simp only; omega),if_pos ⟨h,rfl⟩]
theorem chkP_4 {n:Nat} {tk:Int→Bool} {x:Int} {r:R3} (h1 : ¬ x < -1) (h2 : ¬ (n:Int)≤x) (h:sg r.q<0):chkP n tk ⟨x,true,r⟩=7:=by unfold chkP; rw [if_neg (by simp only; omega),if_neg (by simp),if_pos ⟨rfl,h⟩]
theorem chkP_5 {n:Nat} {tk:Int→Bool} {x:Int} {b:Bool} {r:R3} (h1 : ¬ x < -1) (h2 : ¬ (n:Int)≤x) (h3 : ¬ (b=true∧sg r.q<0)) (h:x≠-1) (h5:tk x=true):chkP n tk ⟨x,b,r⟩=20:=by
 unfold chkP; rw [if_neg (by simp only; omega),if_neg (fun h6=>h h6.1),if_neg h3,if_pos ⟨h,h5⟩]
theorem chkP_6 {n:Nat} {tk:Int→Bool} {x:Int} {b:Bool} {r:R3} (h1 : ¬ x < -1) (h2 : ¬ (n:Int)≤x) (h4 : ¬ (x = -1∧b=false)) (h3 : ¬ (b=true∧sg r.q<0)) (h5:x = -1∨tk x=false):chkP n tk ⟨x,b,r⟩=0:=by
 unfold chkP; rw [if_neg (by simp only; omega),if_neg h4,if_neg h3,if_neg]
 rintro ⟨h6,h7⟩
 rcases h5 with h5 | h5
 ·exact h6 h5
 ·rw [h5] at h7; cases h7
theorem longT_true {a:Agr} (h:24<a.length):longT a=true:=by unfold longT; rw [decide_eq_true h]; rfl
theorem longT_true' {a:Agr} {i:Nat} (hi:i<a.length) (h:24<(ix a i).length):longT a=true:=Bool.not_eq_false _ |>.mp fun h2=>by
 have:=(longT_false.mp h2).2 i hi; omega
theorem chkA_long {n:Nat} {tk:Int→Bool} {a:Agr} (h:longT a=true):chkA n tk a=2:=by unfold chkA; rw [if_pos h]
theorem chkA_hit {n:Nat} {tk:Int→Bool} {a:Agr} {i j:Nat} (h:longT a=false) (hi:i<a.length) (hj:j<(ix a i).length) (h1 : ∀ k,k<i→chkT n tk (ix a k)=0) (h2 : ∀ k,k<j→chkP n tk (ix (ix a i) k)=0) (h3:chkP n tk (ix (ix a i) j)≠0):chkA n tk a=chkP n tk (ix (ix a i) j):=by
 have e:chkT n tk (ix a i)=chkP n tk (ix (ix a i) j):=fnz_hit (f:=fun k=>chkP n tk (ix (ix a i) k)) h2 h3 hj
 unfold chkA; rw [if_neg (by rw [h]; simp),fnz_hit (f:=fun k=>chkT n tk (ix a k)) h1 (by rw [e]; exact h3) hi,e]
theorem chkA_ok {n:Nat} {tk:Int→Bool} {a:Agr} (h:longT a=false) (h1 : ∀ k,k<a.length→chkT n tk (ix a k)=0):chkA n tk a=0:=by
 unfold chkA; rw [if_neg (by rw [h]; simp),fnz_none h1]
set_option maxRecDepth 100000 in
theorem agreement_any (p:Nat→Prop) (x0 x1 x2:Value) (a1:Option Addr) (nc c1:Nat) (av:Value) (l:List Agr) (k:Nat) (w:World) (hA:RAgrs w p av l) (hk:k<l.length) (lt : ∀ i,i<l.length→(ix l i).length≤140737488351232) (lp : ∀ i j,i<l.length→j<(ix l i).length→(ix (ix l i) j).length≤140737488351232) (hl:l.length≤140737488351232)
  (hnc:nc≤140737488351232) (ff : ∀ i j m,i<l.length→j<(ix l i).length→m<(ix (ix l i) j).length→(ix (ix (ix l i) j) m).a.fits 134217728) :
  Calls Tryz.prog 133 #[.agg #[x0,x1,x2,.slice a1 nc c1,av],.int .i64 (k:Int)] w fun e w'=>e = .returned (.int .i64 (chkA nc (earA l k) (ix l k)))∧Below w.heap.size w w':=by
 have HEA:=Lib.hid (fun c w (h:RAgrs w p av l)=>earlier_any p x0 x1 x2 (.slice a1 nc c1) av l k c w h (by omega) lt lp hl)
 have HA0:=Lib.hid hA
 obtain ⟨G,hS,hQ⟩:=hA
 obtain ⟨aa,cap,rfl,-,-⟩:=hS.form
 have HS:=Lib.hid hS
 have HFF:=Lib.hid (ff k · · hk)
 have lt':=lt k hk
 have HLP:=Lib.hid (lp k · hk)
 obtain ⟨tv,hG,hT⟩:=hQ k hk
 obtain ⟨b,off,rfl,-,-,-⟩:=hS.get (by omega)
 have HC0:=Lib.hid (fun W (h:Below w.heap.size w W)=>hS.cellAt rfl h (i:=k) (j:=0) hk (by omega))
 rw [hG,Nat.mul_one,Nat.add_zero] at HC0
 obtain ⟨G2,hS2,hQ2⟩:=hT
 obtain ⟨at',capt,rfl,-,-⟩:=hS2.form
 have HS2:=Lib.hid hS2
 have HQ2:=Lib.hid hQ2
 generalize htk:earA l k=tk at *
 generalize ha:ix l k=a at *
 clear hS hQ hS2 hQ2 htk ha lt lp ff
 have i0:(0:Int)≤(k:Int):=by omega
 have i00:(k:Int)<(l.length:Int):=by omega
 have HLONG:=Lib.hid (fun h=>chkA_long (n:=nc) (tk:=tk) (a:=a) h)
 have HHIT:=Lib.hid (fun i j h=>chkA_hit (n:=nc) (tk:=tk) (a:=a) (i:=i) (j:=j) h)
 have HOK:=Lib.hid (fun h=>chkA_ok (n:=nc) (tk:=tk) (a:=a) h)
 have HLF:=Lib.hid (fun (h1:a.length≤24) (h2 : ∀ i,i<a.length→(ix a i).length≤24)=>longT_false.mpr ⟨h1,h2⟩)
 have HLT:=Lib.hid (fun (h:24<a.length)=>longT_true h)
 have HLT':=Lib.hid (fun i (hi:i<a.length) (h:24<(ix a i).length)=>longT_true' hi h)
 have HTN:=Lib.hid (show ∀ i,chkT nc tk (ix a i)=fnz (fun j=>chkP nc tk (ix (ix a i) j)) (ix a i).length from fun i=>rfl)
 generalize hR:chkA nc tk a=R at *
 clear hR
 generalize hn:a.length=n at *
 go_enter Tryz.func133,Tryz.ntmps133
 have c0:=HC0.out (w.alloc (.cells #[x0,x1,x2,.slice a1 nc c1,.slice (some ⟨b,off,none⟩) l.length cap] 76)) ((Below.refl _ _).alloc (Nat.le_refl _) _)
 have c0' : (w.alloc (.cells #[x0,x1,x2,.slice a1 nc c1,.slice (some ⟨b,off,none⟩) l.length cap] 76)).cell? ⟨b,off+k,none⟩=some (.slice at' n capt):=c0
 clear c0
 by_cases h24:24<n
 ·have e24:decide (24<n)=true:=decide_eq_true h24
  have e24' : decide ((24:Int)<(n:Int))=true:=by simp; omega
  have HR:=Lib.hid (HLONG.out (HLT.out h24))
  go_wp2
  go_ret
  exact ⟨ret_int HR.out.symm,((Below.refl _ _).alloc (Nat.le_refl _) _).alloc (by simp) _⟩
 ·have e24:decide (24<n)=false:=decide_eq_false h24
  have e24' : decide ((24:Int)<(n:Int))=false:=by simp; omega
  go_wp2_with fail
  refine wp_forget (fun W=>Blk W w.heap.size #[x0,x1,x2,.slice a1 nc c1,.slice (some ⟨b,off,none⟩) l.length cap]∧Blk W (w.heap.size+1) #[.slice at' n capt]∧Below w.heap.size w W) (duo w _ _ _ _) ?_
  rintro W ⟨hb0,hb1,hbel⟩
  have J0:=Lib.hid hb0
  have J1:=Lib.hid hb1
  have HB:=Lib.hid hbel
  have k1:W.cell? ⟨w.heap.size+1,0,none⟩=some (.slice at' n capt):=hb1.cell 0
  clear hbel hb0 hb1 c0'
  go_loopw [6] (fun i wr=>∃ j:Nat,i = .int .i64 j∧j≤n∧wr=W∧Hid (∀ i,i<j→(ix a i).length≤24)) (fun i _=>n - (intOf i).toNat)
  case atStart=>exact ⟨0,rfl,by omega,rfl,fun i hi=>by omega⟩
  case round =>
   obtain ⟨j,rfl,hj,rfl,hs⟩:=hrel
   by_cases hlt:j<n
   ·obtain ⟨b2,off2,rfl,-,-,-⟩:=HS2.out.get (by omega)
    have d0:=HS2.out.cellAt rfl HB.out (i:=j) (j:=0) hlt (by omega)
    obtain ⟨v2,hG3,hR3⟩:=HQ2.out j hlt
    obtain ⟨a3,cap3,rfl,-,-⟩:=hR3.plain.form
    rw [hG3,Nat.mul_one,Nat.add_zero] at d0
    have d1:wr.cell? ⟨b2,off2+j,none⟩=some (.slice a3 (ix a j).length cap3):=d0
    have l2:=HLP.out j hlt
    have i1:(0:Int)≤(j:Int):=by omega
    have i2:(j:Int)<(n:Int):=by omega
    have HSN:=Lib.hid (fun h=>all_next (p:=fun i=>(ix a i).length≤24) hs.out h)
    have HLJ:=Lib.hid (HLT'.out j hlt)
    clear d0 hR3 hG3 hs
    generalize (ix a j).length=n2 at *
    by_cases h24:24<n2
    ·have f24:decide (24<n2)=true:=decide_eq_true h24
     have f24' : decide ((24:Int)<(n2:Int))=true:=by simp; omega
     have HR:=Lib.hid (HLONG.out (HLJ.out h24))
     go_wp2
     go_ret
     exact ⟨ret_int HR.out.symm,HB.out⟩
    ·have f24:decide (24<n2)=false:=decide_eq_false h24
     have f24' : decide ((24:Int)<(n2:Int))=false:=by simp; omega
     have HX:=Lib.hid (HSN.out (by omega))
     go_wp2
     go_roundw
     case rel=>exact ⟨j+1,by go_num,by omega,by simp,HX.out⟩
     case measure=>simp [intOf]; omega
   ·obtain rfl:j=n:=by omega
    have hnl:decide ((j:Int)<(j:Int))=false:=by simp
    have HLL:=Lib.hid (HLF.out (by omega) hs.out)
    have HL24:=Lib.hid hs.out
    have HHIT:=Lib.hid (fun i t=>HHIT.out i t HLL.out)
    have HOK:=Lib.hid (HOK.out HLL.out)
    clear hs
    go_wp2_with fail
    go_loopw [7] (fun i wr'=>∃ q:Nat,i = .int .i64 q∧q≤j∧Blk wr' w.heap.size #[x0,x1,x2,.slice a1 nc c1,.slice (some ⟨b,off,none⟩) l.length cap]∧Blk wr' (w.heap.size+1) #[.slice at' j capt]∧Below w.heap.size w wr'∧Hid (∀ i,i<q→chkT nc tk (ix a i)=0)) (fun i _=>j - (intOf i).toNat)
    case atStart=>exact ⟨0,rfl,by omega,J0.out,J1.out,HB.out,fun i hi=>by omega⟩
    case round =>
     obtain ⟨q,rfl,hq,K0,K1,hbq,hsq⟩:=hrel
     have J0:=Lib.hid K0
     have J1:=Lib.hid K1
     have HB:=Lib.hid hbq
     clear K0 K1 hbq
     by_cases hlq:q<j
     ·obtain ⟨b2,off2,rfl,-,-,-⟩:=HS2.out.get (by omega)
      obtain ⟨v2,hG3,hR3⟩:=HQ2.out q hlq
      obtain ⟨a3,cap3,rfl,-,-⟩:=hR3.plain.form
      have HD:=Lib.hid (fun W (h:Below w.heap.size w W)=>HS2.out.cellAt rfl h (i:=q) (j:=0) hlq (by omega))
      rw [hG3,Nat.mul_one,Nat.add_zero] at HD
      have HP:=Lib.hid hR3.plain
      have l2:=HLP.out q hlq
      have l24:=HL24.out q hlq
      have i1:(0:Int)≤(q:Int):=by omega
      have i2:(q:Int)<(j:Int):=by omega
      have HTQ:=Lib.hid (HTN.out q)
      have HTZ:=Lib.hid (fun h=>all_next (p:=fun i=>chkT nc tk (ix a i)=0) hsq.out h)
      have HHQ:=Lib.hid (fun t ht=>HHIT.out q t hlq ht hsq.out)
      have HFQ:=Lib.hid (HFF.out q · hlq)
      clear hR3 hG3 hsq
      generalize hn2:(ix a q).length=n2 at *
      generalize haq:ix a q=aq at *
      clear haq
      have k1:wr.cell? ⟨w.heap.size+1,0,none⟩=some (Value.slice (some ⟨b2,off2,none⟩) j capt):=J1.out.cell 0
      go_wp2_with fail
      go_loopw [8] (fun i wr'=>∃ t:Nat,i = .int .i64 t∧t≤n2∧Blk wr' w.heap.size #[x0,x1,x2,.slice a1 nc c1,.slice (some ⟨b,off,none⟩) l.length cap]∧Blk wr' (w.heap.size+1) #[.slice (some ⟨b2,off2,none⟩) j capt]∧Below w.heap.size w wr'∧Hid (∀ i,i<t→chkP nc tk (ix aq i)=0)) (fun i _=>n2 - (intOf i).toNat)
      case atStart=>exact ⟨0,rfl,by omega,J0.out,J1.out,HB.out,fun i hi=>by omega⟩
      case round =>
       obtain ⟨t,rfl,ht,K0,K1,hbt,hst⟩:=hrel
       have J0:=Lib.hid K0
       have J1:=Lib.hid K1
       have HB:=Lib.hid hbt
       have d1:=HD.out _ hbt
       have k1:wr.cell? ⟨w.heap.size+1,0,none⟩=some (Value.slice (some ⟨b2,off2,none⟩) j capt):=K1.cell 0
       clear K0 K1 hbt
       by_cases hlt:t<n2
       ·obtain ⟨b3,off3,rfl,-,-,-⟩:=HP.out.get (by omega)
        have e0:=HP.out.cellAt rfl HB.out (i:=t) (j:=0) hlt (by omega)
        have e1:wr.cell? ⟨b3,off3+t*5+1,none⟩=some (Value.bool (ix aq t).b):=HP.out.cellAt rfl HB.out (i:=t) (j:=1) hlt (by omega)
        have e2:wr.cell? ⟨b3,off3+t*5+2,none⟩=some (Value.bool (ix aq t).a.n):=HP.out.cellAt rfl HB.out (i:=t) (j:=2) hlt (by omega)
        have e3:wr.cell? ⟨b3,off3+t*5+3,none⟩=some (Value.string (ix aq t).a.s):=HP.out.cellAt rfl HB.out (i:=t) (j:=3) hlt (by omega)
        have e4:wr.cell? ⟨b3,off3+t*5+4,none⟩=some (Value.string (ix aq t).a.d):=HP.out.cellAt rfl HB.out (i:=t) (j:=4) hlt (by omega)
        rw [Nat.add_zero] at e0
        have e0' : wr.cell? ⟨b3,off3+t*5,none⟩=some (Value.int .i64 (ix aq t).k):=e0
        have HH:=Lib.hid (HHQ.out t hlt hst.out)
        have HN:=Lib.hid (fun h=>all_next (p:=fun i=>chkP nc tk (ix aq i)=0) hst.out h)
        have ht1:(0:Int)≤(t:Int):=by omega
        have ht2:(t:Int)<(n2:Int):=by omega
        have fr:=HFQ.out t hlt
        have hz:=HB.out.size
        clear e0 hst HD HHQ HTZ HTQ HFQ HHIT HOK HLONG HLT HLT' HLF HL24 HLP HC0 HFF
        generalize ix aq t=P at *
        obtain ⟨x,pb,r⟩:=P
        simp only at e0' e1 e2 e3 e4 HH HN fr
        have HSG:=Lib.hid (fun w=>rsign_r3 r w fr)
        have HE:=Lib.hid (fun w h=>HEA.out x w h)
        have F1:=Lib.hid (fun (h:x < -1)=>(HH.out (by rw [chkP_1 h]; omega)).trans (chkP_1 h))
        have F2:=Lib.hid (fun (h:(nc:Int)≤x)=>(HH.out (by rw [chkP_2 h]; omega)).trans (chkP_2 h))
        have F3:=Lib.hid (fun (h1 : ¬ x < -1) (h2 : ¬ (nc:Int)≤x) (h:x = -1) (hb:pb=false)=>(show R=21 by subst hb; exact (HH.out (by rw [chkP_3 h1 h2 h]; omega)).trans (chkP_3 h1 h2 h)))
        have F4:=Lib.hid (fun (h1 : ¬ x < -1) (h2 : ¬ (nc:Int)≤x) (hb:pb=true) (h:sg r.q<0)=>(show R=7 by subst hb; exact (HH.out (by rw [chkP_4 h1 h2 h]; omega)).trans (chkP_4 h1 h2 h)))
        have F5:=Lib.hid (fun (h1 : ¬ x < -1) (h2 : ¬ (nc:Int)≤x) (h3 : ¬ (pb=true∧sg r.q<0)) (h:x≠-1) (h5:tk x=true)=>(HH.out (by rw [chkP_5 h1 h2 h3 h h5]; omega)).trans (chkP_5 h1 h2 h3 h h5))
        have F6:=Lib.hid (fun (h1 : ¬ x < -1) (h2 : ¬ (nc:Int)≤x) (h4 : ¬ (x = -1∧pb=false)) (h3 : ¬ (pb=true∧sg r.q<0)) (h5:x = -1∨tk x=false)=>HN.out (chkP_6 h1 h2 h4 h3 h5))
        clear HH HN HEA
        generalize tk x=tkx at *
        generalize sg r.q=s at *
        generalize r.n=rn' at *
        generalize r.s=rs' at *
        generalize r.d=rd' at *
        obtain ⟨z0,z1,z2,z3,z4⟩:=(J0.out.alloc (.cells #[.int .i64 x,.bool pb,.bool rn',.string rs',.string rd'] 84)).c5
        by_cases h1:x < -1
        ·have dh1:decide (x < -1)=true:=decide_eq_true h1
         have HR:=Lib.hid (F1.out h1)
         clear F1 F2 F3 F4 F5 F6
         go_wp2
         go_ret
         exact ⟨ret_int HR.out.symm,HB.out.alloc (by omega) _⟩
        ·have dh1:decide (x < -1)=false:=decide_eq_false h1
         by_cases h2:(nc:Int)≤x
         ·have dh2:decide ((nc:Int)≤x)=true:=decide_eq_true h2
          have HR:=Lib.hid (F2.out h2)
          clear F1 F2 F3 F4 F5 F6
          go_wp2
          go_ret
          exact ⟨ret_int HR.out.symm,HB.out.alloc (by omega) _⟩
         ·have dh2:decide ((nc:Int)≤x)=false:=decide_eq_false h2
          by_cases h3:x = -1
          ·skip
           subst h3
           cases pb
           ·skip
            have HR:=Lib.hid (F3.out h1 h2 rfl rfl)
            clear F1 F2 F3 F4 F5 F6
            go_wp2
            go_ret
            exact ⟨ret_int HR.out.symm,HB.out.alloc (by omega) _⟩
           ·skip
            by_cases hs0:s<0
            ·have dhs0:decide (s<0)=true:=decide_eq_true hs0
             have HR:=Lib.hid (F4.out h1 h2 rfl hs0)
             clear F1 F2 F3 F4 F5 F6
             go_wp2_with fail
             refine (HSG.out _).mono ?_; rintro e w3 ⟨rfl,hb3⟩
             obtain ⟨K2,hbw⟩:=boxes1 hb3
             have J0:=Lib.hid (J0.out.on hbw)
             have J1:=Lib.hid (J1.out.on hbw)
             have K2:=Lib.hid K2
             have HB:=Lib.hid (chain HB.out hbw (Nat.le_refl _))
             clear hb3 hbw z0 z1 z2 z3 z4 k1 d1 e0' e1 e2 e3 e4
             have q0:w3.cell? ⟨wr.heap.size,0,none⟩=some (Value.int .i64 (-1)):=K2.out.cell 0
             have q1:w3.cell? ⟨w.heap.size+1,0,none⟩=some (Value.slice (some ⟨b2,off2,none⟩) j capt):=J1.out.cell 0
             go_wp2
             go_ret
             exact ⟨ret_int HR.out.symm,HB.out⟩
            ·have dhs0:decide (s<0)=false:=decide_eq_false hs0
             have HX:=Lib.hid (F6.out h1 h2 (by simp) (fun h=>hs0 h.2) (.inl rfl))
             clear F1 F2 F3 F4 F5 F6
             go_wp2_with fail
             refine (HSG.out _).mono ?_; rintro e w3 ⟨rfl,hb3⟩
             obtain ⟨K2,hbw⟩:=boxes1 hb3
             have J0:=Lib.hid (J0.out.on hbw)
             have J1:=Lib.hid (J1.out.on hbw)
             have K2:=Lib.hid K2
             have HB:=Lib.hid (chain HB.out hbw (Nat.le_refl _))
             clear hb3 hbw z0 z1 z2 z3 z4 k1 d1 e0' e1 e2 e3 e4
             have q0:w3.cell? ⟨wr.heap.size,0,none⟩=some (Value.int .i64 (-1)):=K2.out.cell 0
             have q1:w3.cell? ⟨w.heap.size+1,0,none⟩=some (Value.slice (some ⟨b2,off2,none⟩) j capt):=J1.out.cell 0
             go_wp2
             go_roundw
             case rel=>exact ⟨t+1,by go_num,by omega,J0.out,J1.out,HB.out,HX.out⟩
             case measure=>simp [intOf]; omega
          ·skip
           have n1:(x == -1)=false:=by simp [h3]
           have n2' : (x != -1)=true:=by simp [h3]
           cases pb
           ·skip
            cases tkx
            ·skip
             have HX:=Lib.hid (F6.out h1 h2 (fun h=>h3 h.1) (by simp) (.inr rfl))
             clear F1 F2 F3 F4 F5 F6
             go_wp2_with fail
             refine (HE.out _ (HA0.out.on (HB.out.alloc (by omega) _))).mono ?_; rintro e w4 ⟨rfl,hb4⟩
             obtain ⟨K2,hbw⟩:=boxes1 hb4
             have J0:=Lib.hid (J0.out.on hbw)
             have J1:=Lib.hid (J1.out.on hbw)
             have HB:=Lib.hid (chain HB.out hbw (Nat.le_refl _))
             clear hb4 hbw K2 z0 z1 z2 z3 z4 k1 d1 e0' e1 e2 e3 e4
             go_wp2
             go_roundw
             case rel=>exact ⟨t+1,by go_num,by omega,J0.out,J1.out,HB.out,HX.out⟩
             case measure=>simp [intOf]; omega
            ·skip
             have HR:=Lib.hid (F5.out h1 h2 (by simp) h3 rfl)
             clear F1 F2 F3 F4 F5 F6
             go_wp2_with fail
             refine (HE.out _ (HA0.out.on (HB.out.alloc (by omega) _))).mono ?_; rintro e w4 ⟨rfl,hb4⟩
             obtain ⟨K2,hbw⟩:=boxes1 hb4
             have J0:=Lib.hid (J0.out.on hbw)
             have J1:=Lib.hid (J1.out.on hbw)
             have HB:=Lib.hid (chain HB.out hbw (Nat.le_refl _))
             clear hb4 hbw K2 z0 z1 z2 z3 z4 k1 d1 e0' e1 e2 e3 e4
             go_wp2
             go_ret
             exact ⟨ret_int HR.out.symm,HB.out⟩
           ·skip
            by_cases hs0:s<0
            ·have dhs0:decide (s<0)=true:=decide_eq_true hs0
             have HR:=Lib.hid (F4.out h1 h2 rfl hs0)
             clear F1 F2 F3 F4 F5 F6
             go_wp2_with fail
             refine (HSG.out _).mono ?_; rintro e w3 ⟨rfl,hb3⟩
             obtain ⟨K2,hbw⟩:=boxes1 hb3
             have J0:=Lib.hid (J0.out.on hbw)
             have J1:=Lib.hid (J1.out.on hbw)
             have K2:=Lib.hid K2
             have HB:=Lib.hid (chain HB.out hbw (Nat.le_refl _))
             clear hb3 hbw z0 z1 z2 z3 z4 k1 d1 e0' e1 e2 e3 e4
             have q0:w3.cell? ⟨wr.heap.size,0,none⟩=some (Value.int .i64 x):=K2.out.cell 0
             have q1:w3.cell? ⟨w.heap.size+1,0,none⟩=some (Value.slice (some ⟨b2,off2,none⟩) j capt):=J1.out.cell 0
             go_wp2
             go_ret
             exact ⟨ret_int HR.out.symm,HB.out⟩
            ·have dhs0:decide (s<0)=false:=decide_eq_false hs0
             cases tkx
             ·skip
              have HX:=Lib.hid (F6.out h1 h2 (fun h=>h3 h.1) (fun h=>hs0 h.2) (.inr rfl))
              clear F1 F2 F3 F4 F5 F6
              go_wp2_with fail
              refine (HSG.out _).mono ?_; rintro e w3 ⟨rfl,hb3⟩
              obtain ⟨K2,hbw⟩:=boxes1 hb3
              have J0:=Lib.hid (J0.out.on hbw)
              have J1:=Lib.hid (J1.out.on hbw)
              have K2:=Lib.hid K2
              have HB:=Lib.hid (chain HB.out hbw (Nat.le_refl _))
              clear hb3 hbw z0 z1 z2 z3 z4 k1 d1 e0' e1 e2 e3 e4
              have q0:w3.cell? ⟨wr.heap.size,0,none⟩=some (Value.int .i64 x):=K2.out.cell 0
              have q1:w3.cell? ⟨w.heap.size+1,0,none⟩=some (Value.slice (some ⟨b2,off2,none⟩) j capt):=J1.out.cell 0
              obtain ⟨m0,m1,m2,m3,m4⟩:=J0.out.c5
              go_wp2_with fail
              refine (HE.out _ (HA0.out.on HB.out)).mono ?_; rintro e w4 ⟨rfl,hb4⟩
              have J0:=Lib.hid (J0.out.on hb4)
              have J1:=Lib.hid (J1.out.on hb4)
              have HB:=Lib.hid (chain HB.out hb4 (Nat.le_refl _))
              clear hb4 m0 m1 m2 m3 m4 q0 q1
              go_wp2
              go_roundw
              case rel=>exact ⟨t+1,by go_num,by omega,J0.out,J1.out,HB.out,HX.out⟩
              case measure=>simp [intOf]; omega
             ·skip
              have HR:=Lib.hid (F5.out h1 h2 (fun h=>hs0 h.2) h3 rfl)
              clear F1 F2 F3 F4 F5 F6
              go_wp2_with fail
              refine (HSG.out _).mono ?_; rintro e w3 ⟨rfl,hb3⟩
              obtain ⟨K2,hbw⟩:=boxes1 hb3
              have J0:=Lib.hid (J0.out.on hbw)
              have J1:=Lib.hid (J1.out.on hbw)
              have K2:=Lib.hid K2
              have HB:=Lib.hid (chain HB.out hbw (Nat.le_refl _))
              clear hb3 hbw z0 z1 z2 z3 z4 k1 d1 e0' e1 e2 e3 e4
              have q0:w3.cell? ⟨wr.heap.size,0,none⟩=some (Value.int .i64 x):=K2.out.cell 0
              have q1:w3.cell? ⟨w.heap.size+1,0,none⟩=some (Value.slice (some ⟨b2,off2,none⟩) j capt):=J1.out.cell 0
              obtain ⟨m0,m1,m2,m3,m4⟩:=J0.out.c5
              go_wp2_with fail
              refine (HE.out _ (HA0.out.on HB.out)).mono ?_; rintro e w4 ⟨rfl,hb4⟩
              have J0:=Lib.hid (J0.out.on hb4)
              have J1:=Lib.hid (J1.out.on hb4)
              have HB:=Lib.hid (chain HB.out hb4 (Nat.le_refl _))
              clear hb4 m0 m1 m2 m3 m4 q0 q1
              go_wp2
              go_ret
              exact ⟨ret_int HR.out.symm,HB.out⟩
       ·obtain rfl:t=n2:=by omega
        have HX:=Lib.hid (HTZ.out (by rw [HTQ.out]; exact fnz_none hst.out))
        have hnl:decide ((t:Int)<(t:Int))=false:=by simp
        go_wp2
        go_roundw
        case rel=>exact ⟨q+1,by go_num,by omega,J0.out,J1.out,HB.out,HX.out⟩
        case measure=>simp [intOf]; omega
     ·obtain rfl:q=j:=by omega
      have HR:=Lib.hid (HOK.out hsq.out)
      have hnl:decide ((q:Int)<(q:Int))=false:=by simp
      have k1:wr.cell? ⟨w.heap.size+1,0,none⟩=some (Value.slice at' q capt):=J1.out.cell 0
      go_wp2
      go_ret
      exact ⟨ret_int HR.out.symm,HB.out⟩
end Go.Proofs.Ins
