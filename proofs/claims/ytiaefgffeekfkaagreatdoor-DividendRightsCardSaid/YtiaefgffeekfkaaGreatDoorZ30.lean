/- The executor: what is taken by contract; the laws' own examples. -/
import Derived.Test.YtiaefgffeekfkaaGreatDoorZ29
set_option linter.unusedSimpArgs false
set_option linter.unusedVariables false
set_option maxHeartbeats 8000000
namespace Go.Proofs.Xe
open Go.RowKit Go.Proofs.Ins
section
variable {N:Nat} {w0 w:World} {φ:Ph} {σ:St} {p:Nat→Prop}
theorem choose_lt' {α:Type} [Inhabited α] {n:Nat} {P:Nat→α→Prop} (h : ∀ i,i<n→∃ a,P i a) : ∃ f:Nat→α,∀ i,i<n→P i (f i) :=
 ⟨fun i=>if hi:i<n then Classical.choose (h i hi) else default,fun i hi=>by dsimp only; rw [dif_pos hi]; exact Classical.choose_spec (h i hi)⟩
def InW (w:World) (b:Nat):Prop:=b<w.heap.size
theorem ld_un (hR:Rel N w0 φ σ w) {b o e:Nat} {c:List B} {P:Nat×Nat} (hp:φ b=some P) (hl:ld σ.h b o e true=some (.agg c)) : ∃ xs,RBs φ c xs∧xs.length=e∧∀ j,j<e→w.cell? ⟨P.1,o+j,none⟩=xs[j]?:=by
 unfold ld at hl
 cases hk:σ.h b with
 | none=>rw [hk] at hl; cases hl
 | some k =>
  rw [hk] at hl
  dsimp only at hl
  cases hr:k.rd with
  | false=>rw [hr] at hl; cases hl
  | true =>
   rw [hr] at hl
   simp only [cond_true] at hl
   unfold rdC at hl
   dsimp only at hl
   cases hx:(Nat.beq ((k.cells.drop o).take e).length e && ((k.cells.drop o).take e).all B.kn) with
   | false=>rw [hx] at hl; cases hl
   | true =>
    rw [hx] at hl
    cases hl
    rw [Bool.and_eq_true] at hx
    have hle:=Nat.eq_of_beq_eq_true hx.1
    obtain ⟨xs,h1,h2⟩:=hR.reads (k:=k) hk hr hp ((k.cells.drop o).take e) o (fun j x hj=>by
     rw [List.getElem?_take] at hj
     split at hj
     ·rwa [List.getElem?_drop] at hj
     ·cases hj) hx.2
    have hlx:xs.length=e:=by rw [← h1.length,hle]
    refine ⟨xs,h1,hlx,fun j hj=>?_⟩
    rw [List.getElem?_eq_getElem (by omega)]
    exact h2 j _ (List.getElem?_eq_getElem _)
theorem HLp.un (hR:Rel N w0 φ σ w) {e n:Nat} {v:B} {G:Nat→List B} {cv:Value} (hl:HLp p σ.h e v n G) (hv:RB φ v cv) :
  ∃ F:Nat→List Value,Sl w (InW w) e cv n F∧∀ i,i<n→RBs φ (G i) (F i):=by
 rcases hl with ⟨rfl,rfl⟩ | ⟨b,o,c,rfl,-,h3⟩
 ·have:cv = .slice none 0 0:=hv
  subst this
  exact ⟨fun _=>[],Sl.nil _ _ _ _,fun i hi=>by omega⟩
 ·rcases hv with ⟨P,K,hp,rfl,hnK,hK,-⟩ | ⟨rfl,rfl,a,K,rfl,hK⟩
  ·obtain ⟨F,hF⟩:=choose_lt' (n:=n) (P:=fun i (xs:List Value)=>RBs φ (G i) xs∧xs.length=e∧∀ j,j<e→w.cell? ⟨P.1,o+i*e+j,none⟩=xs[j]?) (fun i hi=>ld_un hR hp (h3 i hi))
   refine ⟨F,⟨_,K,rfl,hnK,hK,?_,fun i hi=>(hF i hi).2.1⟩,fun i hi=>(hF i hi).1⟩
   exact .inr ⟨_,_,rfl,hR.lo _ _ hp,hR.lo _ _ hp,fun i j hi hj=>(hF i hi).2.2 j hj⟩
  ·exact ⟨fun _=>[],⟨_,K,rfl,Nat.zero_le _,hK,.inl rfl,fun i hi=>by omega⟩,fun i hi=>by omega⟩
theorem RBs.one {x:B} {r:List Value} (h:RBs φ [x] r) : ∃ v,r=[v]∧RB φ x v:=by
 match r,h with
 | [v],h=>exact ⟨v,rfl,h.1⟩
theorem HClaims.un (hR:Rel N w0 φ σ w) {l:List C5} {v:B} {cv:Value} (hl:HClaims p σ.h v l) (hv:RB φ v cv):RClaims w (InW w) cv l:=by
 obtain ⟨F,h1,h2⟩:=HLp.un hR hl hv
 refine ⟨F,h1,fun i hi=>?_⟩
 have:=h2 i hi
 unfold c5B at this
 match F i,this with
 | [a,b,c,d,e],⟨ha,hb,hc,hd,he,_⟩ =>
  have ha:a=_:=ha
  have hb:b=_:=hb
  have hc:c=_:=hc
  have hd:d=_:=hd
  have he:e=_:=he
  subst ha hb hc hd he
  rfl
theorem HParts.un (hR:Rel N w0 φ σ w) {l:List Prt} {v:B} {cv:Value} (hl:HParts p σ.h v l) (hv:RB φ v cv):RParts w (InW w) cv l:=by
 obtain ⟨F,h1,h2⟩:=HLp.un hR hl hv
 refine ⟨F,h1,fun i hi=>?_⟩
 have:=h2 i hi
 unfold prtB at this
 match F i,this with
 | [a,b,c,d,e],⟨ha,hb,hc,hd,he,_⟩ =>
  have ha:a=_:=ha
  have hb:b=_:=hb
  have hc:c=_:=hc
  have hd:d=_:=hd
  have he:e=_:=he
  subst ha hb hc hd he
  rfl
theorem HLegs.un (hR:Rel N w0 φ σ w) {l:List Ins.Lg} {v:B} {cv:Value} (hl:HLegs p σ.h v l) (hv:RB φ v cv):RLegs w (InW w) cv l:=by
 obtain ⟨F,h1,h2⟩:=HLp.un hR hl hv
 refine ⟨F,h1,fun i hi=>?_⟩
 have:=h2 i hi
 unfold lgB at this
 match F i,this with
 | [a,b],⟨ha,hb,_⟩ =>
  have ha:a=_:=ha
  have hb:b=_:=hb
  subst ha hb
  rfl
theorem HTiers.un (hR:Rel N w0 φ σ w) {l:Agr} {v:B} {cv:Value} (hl:HTiers p σ.h v l) (hv:RB φ v cv):RTiers w (InW w) cv l:=by
 obtain ⟨T,h0,h3⟩:=hl
 obtain ⟨F,h1,h2⟩:=HLp.un hR h0 hv
 refine ⟨F,h1,fun i hi=>?_⟩
 obtain ⟨u,e,hu⟩:=(h2 i hi).one
 exact ⟨u,e,(h3 i hi).un hR hu⟩
theorem HAgrs.un (hR:Rel N w0 φ σ w) {l:List Agr} {v:B} {cv:Value} (hl:HAgrs p σ.h v l) (hv:RB φ v cv):RAgrs w (InW w) cv l:=by
 obtain ⟨T,h0,h3⟩:=hl
 obtain ⟨F,h1,h2⟩:=HLp.un hR h0 hv
 refine ⟨F,h1,fun i hi=>?_⟩
 obtain ⟨u,e,hu⟩:=(h2 i hi).one
 exact ⟨u,e,(h3 i hi).un hR hu⟩
theorem HEsts.un (hR:Rel N w0 φ σ w) {l:List Est} {v:B} {cv:Value} (hl:HEsts p σ.h v l) (hv:RB φ v cv):REsts w (InW w) cv l:=by
 obtain ⟨C,A,h0,h3⟩:=hl
 obtain ⟨F,h1,h2⟩:=HLp.un hR h0 hv
 refine ⟨F,h1,fun i hi=>?_⟩
 have:=h2 i hi
 have h4:=h3 i hi
 match hF:F i,this with
 | [a,b,c,d,e],⟨ha,hb,hc,hd,he,_⟩ =>
  have ha:a=_:=ha
  have hb:b=_:=hb
  have hc:c=_:=hc
  subst ha hb hc
  exact ⟨d,e,rfl,h4.1.un hR hd,h4.2.un hR he⟩
theorem HDbts.un (hR:Rel N w0 φ σ w) {l:List Dbt} {v:B} {cv:Value} (hl:HDbts p σ.h v l) (hv:RB φ v cv):RDbts w (InW w) cv l:=by
 obtain ⟨L,h0,h3⟩:=hl
 obtain ⟨F,h1,h2⟩:=HLp.un hR h0 hv
 refine ⟨F,h1,fun i hi=>?_⟩
 have:=h2 i hi
 have h4:=h3 i hi
 match hF:F i,this with
 | [a,b,c,d],⟨ha,hb,hc,hd,_⟩ =>
  have ha:a=_:=ha
  have hb:b=_:=hb
  have hc:c=_:=hc
  subst ha hb hc
  exact ⟨d,rfl,h4.un hR hd⟩
theorem HGrp.un (hR:Rel N w0 φ σ w) {g:Grp} {ev dv:B} {cv:Value} (hg:HGrp p σ.h ev dv g) (hv:RV φ (.agg [ev,dv]) cv):RGrp w (InW w) cv g:=by
 obtain ⟨r,rfl,hr⟩:=hv
 obtain ⟨l⟩:=r
 match l,hr with
 | [a,b],⟨ha,hb,_⟩=>exact ⟨a,b,rfl,hg.e.un hR ha,hg.d.un hR hb⟩
end
noncomputable section
open Classical in
def orcK (args:List V) (σ:St):Option (V×St):=match args with
 | [.agg [ev,dv]]=>if h : ∃ g,HGrp (fun _=>True) σ.h ev dv g∧SmallG 134217728 g then some (.c (.int .i64 (chkG (Classical.choose h))),σ) else none
 | _=>none
def orcH (f:Nat) (args:List V) (σ:St):Option (V×St) :=
 if f=50 then orcK args σ
 else if f=43 then orcK args σ
 else none
end
theorem orcK_eq {p:Nat→Prop} {σ:St} {ev dv:B} {g:Grp} (hg:HGrp p σ.h ev dv g) (hs:SmallG 134217728 g):orcK [.agg [ev,dv]] σ=some (.c (.int .i64 (chkG g)),σ):=by
 have h : ∃ g,HGrp (fun _=>True) σ.h ev dv g∧SmallG 134217728 g:=⟨g,hg.keep (fun _ _=>rfl) fun _ _=>trivial,hs⟩
 unfold orcK
 dsimp only
 rw [dif_pos h,(Classical.choose_spec h).1.uniq hg]
theorem orcK_get {args:List V} {σ σ' : St} {v:V} (h:orcK args σ=some (v,σ')):σ' = σ∧∃ ev dv g,args=[.agg [ev,dv]]∧v = .c (.int .i64 (chkG g))∧HGrp (fun _=>True) σ.h ev dv g∧SmallG 134217728 g:=by
 unfold orcK at h
 split at h
 ·next ev dv =>
  split at h
  ·next hx=>cases h; exact ⟨rfl,ev,dv,_,rfl,rfl,Classical.choose_spec hx⟩
  ·cases h
 ·cases h
theorem orcH_ok (f:Nat) (args:List V) (σ:St) (v:V) (σ' : St) (h:orcH f args σ=some (v,σ')):okF Tryz.prog f∧∀ (N:Nat) (w0:World) (φ:Ph) (w:World) (cargs:Array Value),Rel N w0 φ σ w→RVs φ args cargs.toList →
  Calls Tryz.prog f cargs w fun e w'=>∃ cv,e = .returned cv∧∃ φ',Ext σ.nxt φ φ'∧Rel N w0 φ' σ' w'∧RV φ' v cv∧σ.nxt≤σ'.nxt:=by
 unfold orcH at h
 split at h
 ·next e =>
  subst e
  obtain ⟨rfl,ev,dv,g,rfl,rfl,h1,h2⟩:=orcK_get h
  refine ⟨okF_of (by kernel_rfl),fun N w0 φ w cargs hR ha=>?_⟩
  obtain ⟨u,rfl,hu⟩:=one_arg ha
  exact (checkgroup_any (InW w) g u w (h1.un hR hu) h2 fun x hx=>hx).mono fun e w' he=>⟨_,he.1,φ,Ext.refl _ _,hR.below he.2,rfl,Nat.le_refl _⟩
 ·split at h
  ·next e =>
   subst e
   obtain ⟨rfl,ev,dv,g,rfl,rfl,h1,h2⟩:=orcK_get h
   refine ⟨okF_of (by kernel_rfl),fun N w0 φ w cargs hR ha=>?_⟩
   obtain ⟨u,rfl,hu⟩:=one_arg ha
   exact (rcheckgroup_any (InW w) g u w (h1.un hR hu) h2).mono fun e w' he=>⟨_,he.1,φ,Ext.refl _ _,hR.below he.2,rfl,Nat.le_refl _⟩
  ·cases h
end Go.Proofs.Xe
namespace Go.Proofs.Ins
open Go.RowKit
def rtV (x:Int×Int×Int):List Value:=[.int .i64 x.1,.int .i64 x.2.1,.int .i64 x.2.2]
set_option maxRecDepth 100000 in
theorem samerights_eq (p p' : Nat→Prop) (l:List (Int×Int×Int)) (v v' : Value) (w:World) (h1:Sl w p 3 v l.length fun i=>rtV (ix l i)) (h2:Sl w p' 3 v' l.length fun i=>rtV (ix l i)) (hl:l.length≤1000000) :
  Calls Tryz.prog 24 #[v,v'] w fun e w'=>e = .returned (.bool true)∧Below w.heap.size w w':=by
 obtain ⟨a1,c1,rfl,-,-⟩:=h1.form
 obtain ⟨a2,c2,rfl,-,-⟩:=h2.form
 have H1:=Lib.hid h1
 have H2:=Lib.hid h2
 clear h1 h2
 generalize hn:l.length=n at *
 go_enter Tryz.func24,Tryz.ntmps24
 go_wp2_with fail
 go_loopw [5] (fun i wr=>∃ k:Nat,i = .int .i64 k∧k≤n∧Below w.heap.size w wr) (fun i _=>n - (intOf i).toNat)
 case atStart=>exact ⟨0,rfl,by omega,Below.refl _ _⟩
 case round =>
  obtain ⟨k,rfl,hk,hb⟩:=hrel
  have HB:=Lib.hid hb
  clear hb
  by_cases hlt:k<n
  ·obtain ⟨b1,o1,rfl,-,-,-⟩:=H1.out.get (by omega)
   obtain ⟨b2,o2,rfl,-,-,-⟩:=H2.out.get (by omega)
   have x0:=H1.out.cellAt rfl HB.out (i:=k) (j:=0) hlt (by omega)
   have y0:=H2.out.cellAt rfl HB.out (i:=k) (j:=0) hlt (by omega)
   rw [Nat.add_zero] at x0 y0
   have m0:=cell_regrown (show wr.cell? ⟨b1,o1+k*3,none⟩=some (.int .i64 (ix l k).1) from x0)
   have m1:=cell_regrown (show wr.cell? ⟨b1,o1+k*3+1,none⟩=some (.int .i64 (ix l k).2.1) from H1.out.cellAt rfl HB.out (i:=k) (j:=1) hlt (by omega))
   have m2:=cell_regrown (show wr.cell? ⟨b1,o1+k*3+2,none⟩=some (.int .i64 (ix l k).2.2) from H1.out.cellAt rfl HB.out (i:=k) (j:=2) hlt (by omega))
   have m3:=cell_regrown (show wr.cell? ⟨b2,o2+k*3,none⟩=some (.int .i64 (ix l k).1) from y0)
   have m4:=cell_regrown (show wr.cell? ⟨b2,o2+k*3+1,none⟩=some (.int .i64 (ix l k).2.1) from H2.out.cellAt rfl HB.out (i:=k) (j:=1) hlt (by omega))
   have m5:=cell_regrown (show wr.cell? ⟨b2,o2+k*3+2,none⟩=some (.int .i64 (ix l k).2.2) from H2.out.cellAt rfl HB.out (i:=k) (j:=2) hlt (by omega))
   have i1:(0:Int)≤(k:Int):=by omega
   have i2:(k:Int)<(n:Int):=by omega
   clear x0 y0
   go_wp2_with fail
   refine wp_region_qb (by kernel_rfl) (by kernel_rfl) ?_
   repeat (first | go_big_quiet_skip | (refine wpQuiet_step (fun K hK=>?_); go_simp; (try simp (disch:=omega) only [ar9]); (first | (refine hK _ ?_; clear hK K) | (apply Exists.intro; refine ⟨fun _=>?_,hK _ ?_⟩; (fail); clear hK K))))
   clear m0 m1 m2 m3 m4 m5
   refine wpQuiet_nil ?_
   intro W1 hb9
   have HB:=Lib.hid (chain HB.out hb9 (Nat.le_refl _))
   clear hb9
   go_wp2
   go_roundw
   case rel=>exact ⟨k+1,by go_num,by omega,HB.out⟩
   case measure=>simp [intOf]; omega
  ·obtain rfl:k=n:=by omega
   have hnl:decide ((k:Int)<(k:Int))=false:=by simp
   go_wp2
   go_ret
   exact ⟨rfl,HB.out⟩
end Go.Proofs.Ins
namespace Go.Proofs.Xe
open Go.RowKit Go.Proofs.Ins
def rt3 (x:Int×Int×Int):List B:=[.int .i64 x.1,.int .i64 x.2.1,.int .i64 x.2.2]
theorem rt3_un {N:Nat} {w0 w:World} {φ:Ph} {σ:St} {p:Nat→Prop} (hR:Rel N w0 φ σ w) {l:List (Int×Int×Int)} {v:B} {cv:Value} (hl:HLp p σ.h 3 v l.length fun k=>rt3 (ix l k)) (hv:RB φ v cv):Sl w (InW w) 3 cv l.length fun i=>rtV (ix l i):=by
 obtain ⟨F,h1,h2⟩:=HLp.un hR hl hv
 refine h1.congr fun i hi=>?_
 have:=h2 i hi
 unfold rt3 at this
 match F i,this with
 | [a,b,c],⟨ha,hb,hc,_⟩ =>
  have ha:a=_:=ha
  have hb:b=_:=hb
  have hc:c=_:=hc
  subst ha hb hc
  rfl
noncomputable section
open Classical in
def orcR (args:List V) (σ:St):Option (V×St):=match args with
 | [.c a,.c b]=>if ∃ l:List (Int×Int×Int),l.length≤1000000∧HLp (fun _=>True) σ.h 3 a l.length (fun k=>rt3 (ix l k))∧HLp (fun _=>True) σ.h 3 b l.length (fun k=>rt3 (ix l k)) then some (.c (.bool true),σ) else none
 | _=>none
def orcG (f:Nat) (args:List V) (σ:St):Option (V×St):=if f=24 then orcR args σ else orcH f args σ
end
theorem orcG_ok (f:Nat) (args:List V) (σ:St) (v:V) (σ' : St) (h:orcG f args σ=some (v,σ')):okF Tryz.prog f∧∀ (N:Nat) (w0:World) (φ:Ph) (w:World) (cargs:Array Value),Rel N w0 φ σ w→RVs φ args cargs.toList →
  Calls Tryz.prog f cargs w fun e w'=>∃ cv,e = .returned cv∧∃ φ',Ext σ.nxt φ φ'∧Rel N w0 φ' σ' w'∧RV φ' v cv∧σ.nxt≤σ'.nxt:=by
 unfold orcG at h
 split at h
 ·next e =>
  subst e
  unfold orcR at h
  split at h
  ·split at h
   ·next hx =>
    cases h
    obtain ⟨l,hl,h1,h2⟩:=hx
    refine ⟨okF_of (by kernel_rfl),fun N w0 φ w cargs hR ha=>?_⟩
    obtain ⟨cl⟩:=cargs
    match cl,ha with
    | [u,t],⟨hu,ht,_⟩ =>
     exact (samerights_eq (InW w) (InW w) l u t w (rt3_un hR h1 hu) (rt3_un hR h2 ht) hl).mono fun e w' he=>⟨_,he.1,φ,Ext.refl _ _,hR.below he.2,rfl,Nat.le_refl _⟩
   ·cases h
  ·cases h
 ·exact orcH_ok f args σ v σ' h
end Go.Proofs.Xe

namespace Go.Proofs.Xe
open Go.RowKit Go.Proofs.Ins
def AwakeOk (f:Nat):Prop:=okF Tryz.prog f∧∀ w,Calls Tryz.prog f #[] w fun e w'=>e = .returned (.bool true)∧Below w.heap.size w w'
def awN:List Nat:=[
 9,
 23,
 1000000]
noncomputable section
open Classical in
def orcW (f:Nat) (args:List V) (σ:St):Option (V×St):=bif awN.contains f then (match args with | []=>if AwakeOk f then some (.c (.bool true),σ) else none | _=>none) else none
def orcA (f:Nat) (args:List V) (σ:St):Option (V×St):=match orcE f args σ with
 | some r=>some r
 | none=>match orcG f args σ with
  | some r=>some r
  | none=>orcW f args σ
end
theorem orcA_ok (f:Nat) (args:List V) (σ:St) (v:V) (σ' : St) (h:orcA f args σ=some (v,σ')):okF Tryz.prog f∧∀ (N:Nat) (w0:World) (φ:Ph) (w:World) (cargs:Array Value),Rel N w0 φ σ w→RVs φ args cargs.toList →
  Calls Tryz.prog f cargs w fun e w'=>∃ cv,e = .returned cv∧∃ φ',Ext σ.nxt φ φ'∧Rel N w0 φ' σ' w'∧RV φ' v cv∧σ.nxt≤σ'.nxt:=by
 unfold orcA at h
 split at h
 ·next r hr=>cases h; exact orcE_ok f args σ v σ' hr
 ·split at h
  ·next r hr=>cases h; exact orcG_ok f args σ v σ' hr
  ·unfold orcW at h
   cases hb:awN.contains f with
   | false=>rw [hb] at h; cases h
   | true =>
    rw [hb] at h
    simp only [cond_true] at h
    split at h
    ·split at h
     ·next ha =>
      cases h
      refine ⟨ha.1,fun N w0 φ w cargs hR hargs=>?_⟩
      obtain ⟨l⟩:=cargs
      match l,hargs with
      | [],_=>exact (ha.2 w).mono fun e w' he=>⟨_,he.1,φ,Ext.refl _ _,hR.below he.2,rfl,Nat.le_refl _⟩
     ·cases h
    ·cases h
class HasA (E:Env):Prop where
 a : ∀ f args σ r,orcA f args σ=some r→E.orc f args σ=some r
instance {E:Env} [h:HasA E]:HasO E:=⟨fun f args σ v hv=>h.a f args σ _ (by unfold orcA orcE; rw [hv])⟩
theorem callX_orc {E:Env} [hE:HasA E] {f:Nat} {args:List V} {v:V} {σ σ2:St} {K:V→St→Prop} (h:orcA f args σ=some (v,σ2)):CallX E f args σ K=K v σ2:=by
 refine propext ⟨fun ⟨n,v',σ',h1,h2⟩=>?_,fun hk=>call_orc (hE.a f args σ _ h) hk⟩
 have h3:callF E 1 f args σ=some (v,σ2):=by rw [callF]; unfold xCall; rw [hE.a f args σ _ h]
 have a:=callF_mono (show n≤n+1 by omega) f args σ _ h1
 have b:=callF_mono (show 1≤n+1 by omega) f args σ _ h3
 rw [a] at b
 cases b
 exact h2
section
variable {E:Env} [HasA E] {σ:St} {K:V→St→Prop}
theorem x_awake23 (h:AwakeOk 23):CallX E 23 [] σ K=K (.c (.bool true)) σ :=
 callX_orc (by
  unfold orcA orcE orcP
  first | (unfold orcG orcH orcW) | (unfold orcG orcW)
  simp only [Nat.reduceEqDiff,reduceIte,show awN.contains 23=true from rfl,cond_true,if_pos h])
end
end Go.Proofs.Xe
