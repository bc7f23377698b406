/- The executor: what is taken by contract; the laws' own examples. -/
import Derived.Test.YtiaefgffeekfkaaGreatDoorY31
set_option linter.unusedSimpArgs false
set_option linter.unusedVariables false
set_option maxHeartbeats 8000000
namespace Go.Proofs.Xe
open Go.RowKit Go.Proofs.Ins
section
variable {N:Nat} {w0 w:World} {φ:Ph} {σ:St} {p:Nat→Prop}
theorem choose_lt' {α:Type} [Inhabited α] {n:Nat} {P:Nat→α→Prop} (h : ∀ i,i<n→∃ a,P i a) : ∃ f:Nat→α,∀ i,i<n→P i (f i) :=
 ⟨fun i=>if hi:i<n then Classical.choose (h i hi) else default,fun i hi=>by dsimp only;rw [dif_pos hi];exact Classical.choose_spec (h i hi)⟩
def InW (w:World) (b:Nat):Prop:=b<w.heap.size
theorem ld_un (hR:Rel N w0 φ σ w) {b o e:Nat} {c:List B} {P:Nat×Nat} (hp:φ b=some P) (hl:ld σ.h b o e true=some (.agg c)) : ∃ xs,RBs φ c xs∧xs.length=e∧∀ j,j<e→w.cell? ⟨P.1,o+j,none⟩=xs[j]?:=by
 unfold ld at hl
 cases hk:σ.h b with
 | none=>rw [hk] at hl;cases hl
 | some k =>
  rw [hk] at hl
  dsimp only at hl
  cases hr:k.rd with
  | false=>rw [hr] at hl;cases hl
  | true =>
   rw [hr] at hl
   simp only [cond_true] at hl
   unfold rdC at hl
   dsimp only at hl
   cases hx:(Nat.beq ((k.cells.drop o).take e).length e && ((k.cells.drop o).take e).all B.kn) with
   | false=>rw [hx] at hl;cases hl
   | true =>
    rw [hx] at hl
    cases hl
    rw [Bool.and_eq_true] at hx
    have hle:=Nat.eq_of_beq_eq_true hx.1
    obtain ⟨xs,h1,h2⟩:=hR.reads (k:=k) hk hr hp ((k.cells.drop o).take e) o (fun j x hj=>by
     rw [List.getElem?_take] at hj
     split at hj
     ·rwa [List.getElem?_drop] at hj
     ·cases hj) hx.2
    have hlx:xs.length=e:=by rw [← h1.length,hle]
    refine ⟨xs,h1,hlx,fun j hj=>?_⟩
    rw [List.getElem?_eq_getElem (by omega)]
    exact h2 j _ (List.getElem?_eq_getElem _)
theorem HLp.un (hR:Rel N w0 φ σ w) {e n:Nat} {v:B} {G:Nat→List B} {cv:Value} (hl:HLp p σ.h e v n G) (hv:RB φ v cv) :
  ∃ F:Nat→List Value,Sl w (InW w) e cv n F∧∀ i,i<n→RBs φ (G i) (F i):=by
 rcases hl with ⟨rfl,rfl⟩|⟨b,o,c,rfl,-,h3⟩
 ·have:cv = .slice none 0 0:=hv
  subst this
  exact ⟨fun _=>[],Sl.nil _ _ _ _,fun i hi=>by omega⟩
 ·rcases hv with ⟨P,K,hp,rfl,hnK,hK,-⟩|⟨rfl,rfl,a,K,rfl,hK⟩
  ·obtain ⟨F,hF⟩:=choose_lt' (n:=n) (P:=fun i (xs:List Value)=>RBs φ (G i) xs∧xs.length=e∧∀ j,j<e→w.cell? ⟨P.1,o+i*e+j,none⟩=xs[j]?) (fun i hi=>ld_un hR hp (h3 i hi))
   refine ⟨F,⟨_,K,rfl,hnK,hK,?_,fun i hi=>(hF i hi).2.1⟩,fun i hi=>(hF i hi).1⟩
   exact .inr ⟨_,_,rfl,hR.lo _ _ hp,hR.lo _ _ hp,fun i j hi hj=>(hF i hi).2.2 j hj⟩
  ·exact ⟨fun _=>[],⟨_,K,rfl,Nat.zero_le _,hK,.inl rfl,fun i hi=>by omega⟩,fun i hi=>by omega⟩
theorem RBs.one {x:B} {r:List Value} (h:RBs φ [x] r) : ∃ v,r=[v]∧RB φ x v:=by
 match r,h with
 | [v],h=>exact ⟨v,rfl,h.1⟩
theorem HClaims.un (hR:Rel N w0 φ σ w) {l:List C5} {v:B} {cv:Value} (hl:HClaims p σ.h v l) (hv:RB φ v cv):RClaims w (InW w) cv l:=by
 obtain ⟨F,h1,h2⟩:=HLp.un hR hl hv
 refine ⟨F,h1,fun i hi=>?_⟩
 have:=h2 i hi
 unfold c5B at this
 match F i,this with
 | [a,b,c,d,e],⟨ha,hb,hc,hd,he,_⟩ =>
  have ha:a=_:=ha
  have hb:b=_:=hb
  have hc:c=_:=hc
  have hd:d=_:=hd
  have he:e=_:=he
  subst ha hb hc hd he
  rfl
theorem HParts.un (hR:Rel N w0 φ σ w) {l:List Prt} {v:B} {cv:Value} (hl:HParts p σ.h v l) (hv:RB φ v cv):RParts w (InW w) cv l:=by
 obtain ⟨F,h1,h2⟩:=HLp.un hR hl hv
 refine ⟨F,h1,fun i hi=>?_⟩
 have:=h2 i hi
 unfold prtB at this
 match F i,this with
 | [a,b,c,d,e],⟨ha,hb,hc,hd,he,_⟩ =>
  have ha:a=_:=ha
  have hb:b=_:=hb
  have hc:c=_:=hc
  have hd:d=_:=hd
  have he:e=_:=he
  subst ha hb hc hd he
  rfl
theorem HLegs.un (hR:Rel N w0 φ σ w) {l:List Ins.Lg} {v:B} {cv:Value} (hl:HLegs p σ.h v l) (hv:RB φ v cv):RLegs w (InW w) cv l:=by
 obtain ⟨F,h1,h2⟩:=HLp.un hR hl hv
 refine ⟨F,h1,fun i hi=>?_⟩
 have:=h2 i hi
 unfold lgB at this
 match F i,this with
 | [a,b],⟨ha,hb,_⟩ =>
  have ha:a=_:=ha
  have hb:b=_:=hb
  subst ha hb
  rfl
theorem HTiers.un (hR:Rel N w0 φ σ w) {l:Agr} {v:B} {cv:Value} (hl:HTiers p σ.h v l) (hv:RB φ v cv):RTiers w (InW w) cv l:=by
 obtain ⟨T,h0,h3⟩:=hl
 obtain ⟨F,h1,h2⟩:=HLp.un hR h0 hv
 refine ⟨F,h1,fun i hi=>?_⟩
 obtain ⟨u,e,hu⟩:=(h2 i hi).one
 exact ⟨u,e,(h3 i hi).un hR hu⟩
theorem HAgrs.un (hR:Rel N w0 φ σ w) {l:List Agr} {v:B} {cv:Value} (hl:HAgrs p σ.h v l) (hv:RB φ v cv):RAgrs w (InW w) cv l:=by
 obtain ⟨T,h0,h3⟩:=hl
 obtain ⟨F,h1,h2⟩:=HLp.un hR h0 hv
 refine ⟨F,h1,fun i hi=>?_⟩
 obtain ⟨u,e,hu⟩:=(h2 i hi).one
 exact ⟨u,e,(h3 i hi).un hR hu⟩
theorem HEsts.un (hR:Rel N w0 φ σ w) {l:List Est} {v:B} {cv:Value} (hl:HEsts p σ.h v l) (hv:RB φ v cv):REsts w (InW w) cv l:=by
 obtain ⟨C,A,h0,h3⟩:=hl
 obtain ⟨F,h1,h2⟩:=HLp.un hR h0 hv
 refine ⟨F,h1,fun i hi=>?_⟩
 have:=h2 i hi
 have h4:=h3 i hi
 match hF:F i,this with
 | [a,b,c,d,e],⟨ha,hb,hc,hd,he,_⟩ =>
  have ha:a=_:=ha
  have hb:b=_:=hb
  have hc:c=_:=hc
  subst ha hb hc
  exact ⟨d,e,rfl,h4.1.un hR hd,h4.2.un hR he⟩
theorem HDbts.un (hR:Rel N w0 φ σ w) {l:List Dbt} {v:B} {cv:Value} (hl:HDbts p σ.h v l) (hv:RB φ v cv):RDbts w (InW w) cv l:=by
 obtain ⟨L,h0,h3⟩:=hl
 obtain ⟨F,h1,h2⟩:=HLp.un hR h0 hv
 refine ⟨F,h1,fun i hi=>?_⟩
 have:=h2 i hi
 have h4:=h3 i hi
 match hF:F i,this with
 | [a,b,c,d],⟨ha,hb,hc,hd,_⟩ =>
  have ha:a=_:=ha
  have hb:b=_:=hb
  have hc:c=_:=hc
  subst ha hb hc
  exact ⟨d,rfl,h4.un hR hd⟩
theorem HGrp.un (hR:Rel N w0 φ σ w) {g:Grp} {ev dv:B} {cv:Value} (hg:HGrp p σ.h ev dv g) (hv:RV φ (.agg [ev,dv]) cv):RGrp w (InW w) cv g:=by
 obtain ⟨r,rfl,hr⟩:=hv
 obtain ⟨l⟩:=r
 match l,hr with
 | [a,b],⟨ha,hb,_⟩=>exact ⟨a,b,rfl,hg.e.un hR ha,hg.d.un hR hb⟩
end
noncomputable section
open Classical in
def orcK (args:List V) (σ:St):Option (V×St):=match args with
 | [.agg [ev,dv]]=>if h : ∃ g,HGrp (fun _=>True) σ.h ev dv g∧SmallG 134217728 g then some (.c (.int .i64 (chkG (Classical.choose h))),σ) else none
 | _=>none
def orcH (f:Nat) (args:List V) (σ:St):Option (V×St) :=
 if f=50 then orcK args σ
 else if f=43 then orcK args σ
 else none
end
theorem orcK_eq {p:Nat→Prop} {σ:St} {ev dv:B} {g:Grp} (hg:HGrp p σ.h ev dv g) (hs:SmallG 134217728 g):orcK [.agg [ev,dv]] σ=some (.c (.int .i64 (chkG g)),σ):=by
 have h : ∃ g,HGrp (fun _=>True) σ.h ev dv g∧SmallG 134217728 g:=⟨g,hg.keep (fun _ _=>rfl) fun _ _=>trivial,hs⟩
 unfold orcK
 dsimp only
 rw [dif_pos h,(Classical.choose_spec h).1.uniq hg]
theorem orcK_get {args:List V} {σ σ' : St} {v:V} (h:orcK args σ=some (v,σ')):σ' = σ∧∃ ev dv g,args=[.agg [ev,dv]]∧v = .c (.int .i64 (chkG g))∧HGrp (fun _=>True) σ.h ev dv g∧SmallG 134217728 g:=by
 unfold orcK at h
 split at h
 ·next ev dv =>
  split at h
  ·next hx=>cases h;exact ⟨rfl,ev,dv,_,rfl,rfl,Classical.choose_spec hx⟩
  ·cases h
 ·cases h
theorem orcH_ok (f:Nat) (args:List V) (σ:St) (v:V) (σ' : St) (h:orcH f args σ=some (v,σ')):okF Tryz.prog f∧∀ (N:Nat) (w0:World) (φ:Ph) (w:World) (cargs:Array Value),Rel N w0 φ σ w→RVs φ args cargs.toList →
  Calls Tryz.prog f cargs w fun e w'=>∃ cv,e = .returned cv∧∃ φ',Ext σ.nxt φ φ'∧Rel N w0 φ' σ' w'∧RV φ' v cv∧σ.nxt≤σ'.nxt:=by
 unfold orcH at h
 split at h
 ·next e =>
  subst e
  obtain ⟨rfl,ev,dv,g,rfl,rfl,h1,h2⟩:=orcK_get h
  refine ⟨okF_of (by kernel_rfl),fun N w0 φ w cargs hR ha=>?_⟩
  obtain ⟨u,rfl,hu⟩:=one_arg ha
  exact (checkgroup_any (InW w) g u w (h1.un hR hu) h2 fun x hx=>hx).mono fun e w' he=>⟨_,he.1,φ,Ext.refl _ _,hR.below he.2,rfl,Nat.le_refl _⟩
 ·split at h
  ·next e =>
   subst e
   obtain ⟨rfl,ev,dv,g,rfl,rfl,h1,h2⟩:=orcK_get h
   refine ⟨okF_of (by kernel_rfl),fun N w0 φ w cargs hR ha=>?_⟩
   obtain ⟨u,rfl,hu⟩:=one_arg ha
   exact (rcheckgroup_any (InW w) g u w (h1.un hR hu) h2).mono fun e w' he=>⟨_,he.1,φ,Ext.refl _ _,hR.below he.2,rfl,Nat.le_refl _⟩
  ·cases h
end Go.Proofs.Xe
namespace Go.Proofs.Ins
open Go.RowKit
def Fr (B:Nat) (w:World) (b:Nat):Prop:=B≤b∧b<w.heap.size
section
variable {α:Type} [Inhabited α] {w w' : World} {B:Nat} {T:TypeId} {sz:Nat} {Q:World→(Nat→Prop)→List Value→α→Prop} {v:Value} {l:List α}
end
/-! ### Groups whose numbers are valid -/
def nR (q:Rat):R3:=⟨rn q,rs q,rd q⟩
def clC (x:C5):C5:=⟨x.h,x.r,nR x.a.q⟩
theorem ix_map {α β:Type} [Inhabited α] [Inhabited β] (f:α→β) {l:List α} {i:Nat} (h:i<l.length):ix (l.map f) i=f (ix l i):=by
 rw [ix_lt h,ix_lt (by simpa using h),List.getElem_map]
set_option maxRecDepth 100000 in
theorem samepart_eq (k:Int) (b n:Bool) (s d:ByteArray) (w:World) :
  Calls Tryz.prog 137 #[.agg #[.int .i64 k,.bool b,.bool n,.string s,.string d],.agg #[.int .i64 k,.bool b,.bool n,.string s,.string d]] w fun e w'=>e = .returned (.bool true)∧Below w.heap.size w w':=by
 go_enter Tryz.func137,Tryz.ntmps137
 go_wp2
 go_ret
 exact ⟨rfl,((Below.refl _ _).alloc (Nat.le_refl _) _).alloc (by simp) _⟩
set_option maxRecDepth 100000 in
theorem samelegs_eq (p p' : Nat→Prop) (l:List Lg) (v v' : Value) (w:World) (h1:RLegs w p v l) (h2:RLegs w p' v' l) (hl:l.length≤1000000) :
  Calls Tryz.prog 47 #[v,v'] w fun e w'=>e = .returned (.bool true)∧Below w.heap.size w w':=by
 obtain ⟨a1,c1,rfl,-,-⟩:=h1.plain.form
 obtain ⟨a2,c2,rfl,-,-⟩:=h2.plain.form
 have H1:=Lib.hid h1.plain
 have H2:=Lib.hid h2.plain
 clear h1 h2
 generalize hn:l.length=n at *
 go_enter Tryz.func47,Tryz.ntmps47
 go_wp2_with fail
 go_loopw [5] (fun i wr=>∃ k:Nat,i = .int .i64 k∧k≤n∧Below w.heap.size w wr) (fun i _=>n - (intOf i).toNat)
 case atStart=>exact ⟨0,rfl,by omega,Below.refl _ _⟩
 case round =>
  obtain ⟨k,rfl,hk,hb⟩:=hrel
  have HB:=Lib.hid hb
  clear hb
  by_cases hlt:k<n
  ·obtain ⟨b1,o1,rfl,-,-,-⟩:=H1.out.get (by omega)
   obtain ⟨b2,o2,rfl,-,-,-⟩:=H2.out.get (by omega)
   have x0:=H1.out.cellAt rfl HB.out (i:=k) (j:=0) hlt (by omega)
   have y0:=H2.out.cellAt rfl HB.out (i:=k) (j:=0) hlt (by omega)
   rw [Nat.add_zero] at x0 y0
   have m0:=cell_regrown (show wr.cell? ⟨b1,o1+k*2,none⟩=some (.int .i64 (ix l k).e) from x0)
   have m1:=cell_regrown (show wr.cell? ⟨b1,o1+k*2+1,none⟩=some (.int .i64 (ix l k).k) from H1.out.cellAt rfl HB.out (i:=k) (j:=1) hlt (by omega))
   have m2:=cell_regrown (show wr.cell? ⟨b2,o2+k*2,none⟩=some (.int .i64 (ix l k).e) from y0)
   have m3:=cell_regrown (show wr.cell? ⟨b2,o2+k*2+1,none⟩=some (.int .i64 (ix l k).k) from H2.out.cellAt rfl HB.out (i:=k) (j:=1) hlt (by omega))
   have i1:(0:Int)≤(k:Int):=by omega
   have i2:(k:Int)<(n:Int):=by omega
   clear x0 y0
   go_wp2_with fail
   refine wp_region_qb (by kernel_rfl) (by kernel_rfl) ?_
   repeat (first|go_big_quiet_skip|(refine wpQuiet_step (fun K hK=>?_);go_simp;(try simp (disch:=omega) only [ar9]);(first|(refine hK _ ?_;clear hK K)|(apply Exists.intro;refine ⟨fun _=>?_,hK _ ?_⟩;(fail);clear hK K))))
   clear m0 m1 m2 m3
   refine wpQuiet_nil ?_
   intro W1 hb9
   have HB:=Lib.hid (chain HB.out hb9 (Nat.le_refl _))
   clear hb9
   go_wp2
   go_roundw
   case rel=>exact ⟨k+1,by go_num,by omega,HB.out⟩
   case measure=>simp [intOf];omega
  ·obtain rfl:k=n:=by omega
   have hnl:decide ((k:Int)<(k:Int))=false:=by simp
   go_wp2
   go_ret
   exact ⟨rfl,HB.out⟩
set_option maxRecDepth 100000 in
theorem sameagr_eq (p p' : Nat→Prop) (tl:Agr) (v v' : Value) (w:World) (h1:RTiers w p v tl) (h2:RTiers w p' v' tl) (hl:tl.length≤1000000) (hll : ∀ j,j<tl.length→(ix tl j).length≤1000000) :
  Calls Tryz.prog 84 #[.agg #[v],.agg #[v']] w fun e w'=>e = .returned (.bool true)∧Below w.heap.size w w':=by
 have HPT:=Lib.hid (fun k b n s d w=>samepart_eq k b n s d w)
 have HLL:=Lib.hid hll
 obtain ⟨G1,hS1,hQ1⟩:=h1
 obtain ⟨G2,hS2,hQ2⟩:=h2
 obtain ⟨a1,c1,rfl,-,-⟩:=hS1.form
 obtain ⟨a2,c2,rfl,-,-⟩:=hS2.form
 have HS1:=Lib.hid hS1
 have HS2:=Lib.hid hS2
 have HQ1:=Lib.hid (fun i hi=>by
  obtain ⟨pv,hg,hR⟩:=hQ1 i hi
  obtain ⟨a3,c3,rfl,-,-⟩:=hR.plain.form
  exact (⟨a3,c3,hg,hR⟩ : ∃ a3 c3,G1 i=[.slice a3 (ix tl i).length c3]∧RParts w p (.slice a3 (ix tl i).length c3) (ix tl i)))
 have HQ2:=Lib.hid (fun i hi=>by
  obtain ⟨pv,hg,hR⟩:=hQ2 i hi
  obtain ⟨a3,c3,rfl,-,-⟩:=hR.plain.form
  exact (⟨a3,c3,hg,hR⟩ : ∃ a3 c3,G2 i=[.slice a3 (ix tl i).length c3]∧RParts w p' (.slice a3 (ix tl i).length c3) (ix tl i)))
 clear hS1 hS2 hQ1 hQ2 hll
 generalize hn:tl.length=n at *
 go_enter Tryz.func84,Tryz.ntmps84
 go_wp2_with fail
 refine wp_forget (fun W=>Blk W w.heap.size #[.slice a1 n c1]∧Blk W (w.heap.size+1) #[.slice a2 n c2]∧Below w.heap.size w W) (duo w _ _ _ _) ?_
 rintro W ⟨K0,K1,hbel⟩
 have J0:=Lib.hid K0
 have J1:=Lib.hid K1
 have HB:=Lib.hid hbel
 clear K0 K1 hbel
 go_loopw [5] (fun i wr=>∃ k:Nat,i = .int .i64 k∧k≤n∧Blk wr w.heap.size #[.slice a1 n c1]∧Blk wr (w.heap.size+1) #[.slice a2 n c2]∧Below w.heap.size w wr) (fun i _=>n - (intOf i).toNat)
 case atStart=>exact ⟨0,rfl,by omega,J0.out,J1.out,HB.out⟩
 case round =>
  obtain ⟨k,rfl,hk,K0,K1,hbel⟩:=hrel
  have J0:=Lib.hid K0
  have J1:=Lib.hid K1
  have HB:=Lib.hid hbel
  have k0:wr.cell? ⟨w.heap.size,0,none⟩=some (.slice a1 n c1):=K0.cell 0
  clear K0 K1 hbel
  by_cases hlt:k<n
  ·obtain ⟨b1,o1,rfl,-,hb1,-⟩:=HS1.out.get (by omega)
   obtain ⟨b2,o2,rfl,-,hb2,-⟩:=HS2.out.get (by omega)
   obtain ⟨a3,c3,hg1,hR1⟩:=HQ1.out k hlt
   obtain ⟨a4,c4,hg2,hR2⟩:=HQ2.out k hlt
   have HX:=Lib.hid (fun W (h:Below w.heap.size w W)=>HS1.out.cellAt rfl h (i:=k) (j:=0) hlt (by omega))
   have HY:=Lib.hid (fun W (h:Below w.heap.size w W)=>HS2.out.cellAt rfl h (i:=k) (j:=0) hlt (by omega))
   rw [hg1,Nat.mul_one,Nat.add_zero] at HX
   rw [hg2,Nat.mul_one,Nat.add_zero] at HY
   have HP1:=Lib.hid hR1.plain
   have HP2:=Lib.hid hR2.plain
   have hln:=HLL.out k hlt
   have i1:(0:Int)≤(k:Int):=by omega
   have i2:(k:Int)<(n:Int):=by omega
   clear hg1 hg2 hR1 hR2 HQ1 HQ2 HS1 HS2 HLL
   generalize hnp:(ix tl k).length=np at *
   generalize ix tl k=pl at *
   have m0:=cell_regrown (show wr.cell? ⟨w.heap.size,0,none⟩=some (.slice (some ⟨b1,o1,none⟩) n c1) from J0.out.cell 0)
   have m1:=cell_regrown (show wr.cell? ⟨w.heap.size+1,0,none⟩=some (.slice (some ⟨b2,o2,none⟩) n c2) from J1.out.cell 0)
   have m2:=cell_regrown (show wr.cell? ⟨b1,o1+k,none⟩=some (.slice a3 np c3) from HX.out wr HB.out)
   have m3:=cell_regrown (show wr.cell? ⟨b2,o2+k,none⟩=some (.slice a4 np c4) from HY.out wr HB.out)
   go_wp2_with fail
   refine wp_region_qb (by kernel_rfl) (by kernel_rfl) ?_
   repeat (first|go_big_quiet_skip|(refine wpQuiet_step (fun K hK=>?_);go_simp;(try simp (disch:=omega) only [ar9]);(first|(refine hK _ ?_;clear hK K)|(apply Exists.intro;refine ⟨fun _=>?_,hK _ ?_⟩;(fail);clear hK K))))
   clear m0 m1 m2 m3 k0
   refine wpQuiet_nil ?_
   intro W1 hb9
   have J0:=Lib.hid (J0.out.on hb9)
   have J1:=Lib.hid (J1.out.on hb9)
   have HB:=Lib.hid (chain HB.out hb9 (Nat.le_refl _))
   clear hb9
   go_wp2_with fail
   go_loopw [6] (fun i wr=>∃ l:Nat,i = .int .i64 l∧l≤np∧Blk wr w.heap.size #[.slice (some ⟨b1,o1,none⟩) n c1]∧Blk wr (w.heap.size+1) #[.slice (some ⟨b2,o2,none⟩) n c2]∧Below w.heap.size w wr) (fun i _=>np - (intOf i).toNat)
   case atStart=>exact ⟨0,rfl,by omega,J0.out,J1.out,HB.out⟩
   case round =>
    obtain ⟨l,rfl,hl,K0,K1,hbel⟩:=hrel
    have J0:=Lib.hid K0
    have J1:=Lib.hid K1
    have HB:=Lib.hid hbel
    have k0:wr.cell? ⟨w.heap.size,0,none⟩=some (.slice (some ⟨b1,o1,none⟩) n c1):=K0.cell 0
    have k1:wr.cell? ⟨b1,o1+k,none⟩=some (.slice a3 np c3):=HX.out wr HB.out
    clear K0 K1 hbel
    by_cases hll:l<np
    ·obtain ⟨b3,o3,rfl,-,-,-⟩:=HP1.out.get (by omega)
     obtain ⟨b4,o4,rfl,-,-,-⟩:=HP2.out.get (by omega)
     have HD1:=Lib.hid (fun j (hj:j<5)=>HP1.out.cellAt rfl HB.out (i:=l) (j:=j) hll hj)
     have HD2:=Lib.hid (fun j (hj:j<5)=>HP2.out.cellAt rfl HB.out (i:=l) (j:=j) hll hj)
     have x0:=HD1.out 0 (by omega)
     have y0:=HD2.out 0 (by omega)
     rw [Nat.add_zero] at x0 y0
     have m0:=cell_regrown (show wr.cell? ⟨w.heap.size,0,none⟩=some (.slice (some ⟨b1,o1,none⟩) n c1) from J0.out.cell 0)
     have m1:=cell_regrown (show wr.cell? ⟨w.heap.size+1,0,none⟩=some (.slice (some ⟨b2,o2,none⟩) n c2) from J1.out.cell 0)
     have m2:=cell_regrown (show wr.cell? ⟨b1,o1+k,none⟩=some (.slice (some ⟨b3,o3,none⟩) np c3) from HX.out wr HB.out)
     have m3:=cell_regrown (show wr.cell? ⟨b2,o2+k,none⟩=some (.slice (some ⟨b4,o4,none⟩) np c4) from HY.out wr HB.out)
     have p0:=cell_regrown (show wr.cell? ⟨b3,o3+l*5,none⟩=some (.int .i64 (ix pl l).k) from x0)
     have p1:=cell_regrown (show wr.cell? ⟨b3,o3+l*5+1,none⟩=some (.bool (ix pl l).b) from HD1.out 1 (by omega))
     have p2:=cell_regrown (show wr.cell? ⟨b3,o3+l*5+2,none⟩=some (.bool (ix pl l).a.n) from HD1.out 2 (by omega))
     have p3:=cell_regrown (show wr.cell? ⟨b3,o3+l*5+3,none⟩=some (.string (ix pl l).a.s) from HD1.out 3 (by omega))
     have p4:=cell_regrown (show wr.cell? ⟨b3,o3+l*5+4,none⟩=some (.string (ix pl l).a.d) from HD1.out 4 (by omega))
     have q0:=cell_regrown (show wr.cell? ⟨b4,o4+l*5,none⟩=some (.int .i64 (ix pl l).k) from y0)
     have q1:=cell_regrown (show wr.cell? ⟨b4,o4+l*5+1,none⟩=some (.bool (ix pl l).b) from HD2.out 1 (by omega))
     have q2:=cell_regrown (show wr.cell? ⟨b4,o4+l*5+2,none⟩=some (.bool (ix pl l).a.n) from HD2.out 2 (by omega))
     have q3:=cell_regrown (show wr.cell? ⟨b4,o4+l*5+3,none⟩=some (.string (ix pl l).a.s) from HD2.out 3 (by omega))
     have q4:=cell_regrown (show wr.cell? ⟨b4,o4+l*5+4,none⟩=some (.string (ix pl l).a.d) from HD2.out 4 (by omega))
     have i3:(0:Int)≤(l:Int):=by omega
     have i4:(l:Int)<(np:Int):=by omega
     clear x0 y0 HD1 HD2
     generalize (ix pl l).k=kk at *
     generalize (ix pl l).b=bb at *
     generalize (ix pl l).a.n=an at *
     generalize (ix pl l).a.s=as' at *
     generalize (ix pl l).a.d=ad at *
     go_wp2_with fail
     refine wp_region_qb (by kernel_rfl) (by kernel_rfl) ?_
     repeat (first|go_big_quiet_skip|(refine wpQuiet_step (fun K hK=>?_);go_simp;(try simp (disch:=omega) only [ar9]);(first|(refine hK _ ?_;clear hK K)|(apply Exists.intro;refine ⟨fun _=>?_,hK _ ?_⟩;(first|with_reducible exact Calls.later (HPT.out _ _ _ _ _ _));clear hK K))))
     clear m0 m1 m2 m3 p0 p1 p2 p3 p4 q0 q1 q2 q3 q4 k0 k1
     refine wpQuiet_nil ?_
     intro W2 hb9
     have J0:=Lib.hid (J0.out.on hb9)
     have J1:=Lib.hid (J1.out.on hb9)
     have HB:=Lib.hid (chain HB.out hb9 (Nat.le_refl _))
     clear hb9
     go_wp2
     go_roundw
     case rel=>exact ⟨l+1,by go_num,by omega,J0.out,J1.out,HB.out⟩
     case measure=>simp [intOf];omega
    ·obtain rfl:l=np:=by omega
     have hnl:decide ((l:Int)<(l:Int))=false:=by simp
     go_wp2
     go_roundw
     case rel=>exact ⟨k+1,by go_num,by omega,J0.out,J1.out,HB.out⟩
     case measure=>simp [intOf];omega
  ·obtain rfl:k=n:=by omega
   have hnl:decide ((k:Int)<(k:Int))=false:=by simp
   go_wp2
   go_ret
   exact ⟨rfl,HB.out⟩
section
variable {α:Type} [Inhabited α] {w w' : World} {B:Nat} {T:TypeId} {sz:Nat} {Q:World→(Nat→Prop)→List Value→α→Prop} {v:Value} {l:List α}
end
structure LimE (e:Est):Prop where
 c:e.c.length≤24
 a:e.a.length≤12
 t : ∀ i,i<e.a.length→(ix e.a i).length≤24
 l : ∀ i j,i<e.a.length→j<(ix e.a i).length→(ix (ix e.a i) j).length≤24
structure LimG (g:Grp):Prop where
 le:g.e.length≤8
 ld:g.d.length≤16
 e : ∀ i,i<g.e.length→LimE (ix g.e i)
 l : ∀ i,i<g.d.length→(ix g.d i).l.length≤8
theorem REsts.elem {w:World} {p:Nat→Prop} {l:List Est} {G:Nat→List Value} (hQ : ∀ i,i<l.length→QEst w p (G i) (ix l i)) (i:Nat) (hi:i<l.length) :
  ∃ a2 c2 a3 c3,G i=[.bool (ix l i).m.n,.string (ix l i).m.s,.string (ix l i).m.d,.slice a2 (ix l i).c.length c2,.slice a3 (ix l i).a.length c3]∧RClaims w p (.slice a2 (ix l i).c.length c2) (ix l i).c∧RAgrs w p (.slice a3 (ix l i).a.length c3) (ix l i).a:=by
 obtain ⟨cv,av,hg,hC,hA⟩:=hQ i hi
 obtain ⟨a2,c2,rfl,-,-⟩:=hC.plain.form
 obtain ⟨a3,c3,rfl,-,-⟩:=(show ∃ a3 c3,av = .slice a3 (ix l i).a.length c3∧True∧True from by obtain ⟨G,hS,-⟩:=hA;obtain ⟨x,y,h,-,-⟩:=hS.form;exact ⟨x,y,h,trivial,trivial⟩)
 exact ⟨a2,c2,a3,c3,hg,hC,hA⟩
theorem RDbts.elem {w:World} {p:Nat→Prop} {l:List Dbt} {G:Nat→List Value} (hQ : ∀ i,i<l.length→QDbt w p (G i) (ix l i)) (i:Nat) (hi:i<l.length) :
  ∃ a2 c2,G i=[.bool (ix l i).w.n,.string (ix l i).w.s,.string (ix l i).w.d,.slice a2 (ix l i).l.length c2]∧RLegs w p (.slice a2 (ix l i).l.length c2) (ix l i).l:=by
 obtain ⟨lv,hg,hL⟩:=hQ i hi
 obtain ⟨a2,c2,rfl,-,-⟩:=hL.plain.form
 exact ⟨a2,c2,hg,hL⟩
theorem RAgrs.elem {w:World} {p:Nat→Prop} {l:List Agr} {G:Nat→List Value} (hQ : ∀ i,i<l.length→QAgr w p (G i) (ix l i)) (i:Nat) (hi:i<l.length) :
  ∃ a2 c2,G i=[.slice a2 (ix l i).length c2]∧RTiers w p (.slice a2 (ix l i).length c2) (ix l i):=by
 obtain ⟨v,hg,hA⟩:=hQ i hi
 obtain ⟨a3,c3,rfl,-,-⟩:=(show ∃ a3 c3,v = .slice a3 (ix l i).length c3∧True∧True from by obtain ⟨G,hS,-⟩:=hA;obtain ⟨x,y,h,-,-⟩:=hS.form;exact ⟨x,y,h,trivial,trivial⟩)
 exact ⟨a3,c3,hg,hA⟩
set_option maxRecDepth 100000 in
theorem sameestate_eq (p p' : Nat→Prop) (e:Est) (cv av cv' av' : Value) (w:World) (h1:RClaims w p cv e.c) (h2:RAgrs w p av e.a) (h3:RClaims w p' cv' e.c) (h4:RAgrs w p' av' e.a) (hl:LimE e) :
  Calls Tryz.prog 46 #[e.v cv av,e.v cv' av'] w fun x w'=>x = .returned (.bool true)∧Below w.heap.size w w':=by
 obtain ⟨lc,la,lt,lp⟩:=hl
 have HLT:=Lib.hid lt
 have HLP:=Lib.hid lp
 obtain ⟨a1,c1,rfl,-,-⟩:=h1.plain.form
 obtain ⟨a2,c2,rfl,-,-⟩:=h3.plain.form
 have HC1:=Lib.hid h1.plain
 have HC2:=Lib.hid h3.plain
 obtain ⟨G1,hS1,hQ1⟩:=h2
 obtain ⟨G2,hS2,hQ2⟩:=h4
 obtain ⟨a3,c3,rfl,-,-⟩:=hS1.form
 obtain ⟨a4,c4,rfl,-,-⟩:=hS2.form
 have HS1:=Lib.hid hS1
 have HS2:=Lib.hid hS2
 have HQ1:=Lib.hid (RAgrs.elem hQ1)
 have HQ2:=Lib.hid (RAgrs.elem hQ2)
 unfold Est.v
 clear h1 h3 hS1 hS2 hQ1 hQ2 lt lp
 generalize hcl:e.c=cl at *
 generalize hal:e.a=al at *
 generalize e.m=m at *
 clear hcl hal
 generalize m.n=mn at *
 generalize m.s=ms at *
 generalize m.d=md at *
 generalize hnc:cl.length=nc at *
 generalize hna:al.length=na at *
 go_enter Tryz.func46,Tryz.ntmps46
 go_wp2_with fail
 refine wp_forget (fun W=>Blk W w.heap.size #[.bool mn,.string ms,.string md,.slice a1 nc c1,.slice a3 na c3]∧Blk W (w.heap.size+1) #[.bool mn,.string ms,.string md,.slice a2 nc c2,.slice a4 na c4]∧Below w.heap.size w W) (duo w _ _ _ _) ?_
 rintro W ⟨K0,K1,hbel⟩
 have J0:=Lib.hid K0
 have J1:=Lib.hid K1
 have HB:=Lib.hid hbel
 clear K0 K1 hbel
 go_loopw [5] (fun i wr=>∃ k:Nat,i = .int .i64 k∧k≤nc∧Blk wr w.heap.size #[.bool mn,.string ms,.string md,.slice a1 nc c1,.slice a3 na c3]∧Blk wr (w.heap.size+1) #[.bool mn,.string ms,.string md,.slice a2 nc c2,.slice a4 na c4]∧Below w.heap.size w wr) (fun i _=>nc - (intOf i).toNat)
 case atStart=>exact ⟨0,rfl,by omega,J0.out,J1.out,HB.out⟩
 case round =>
  obtain ⟨k,rfl,hk,K0,K1,hbel⟩:=hrel
  have J0:=Lib.hid K0
  have J1:=Lib.hid K1
  have HB:=Lib.hid hbel
  have k3:wr.cell? ⟨w.heap.size,3,none⟩=some (.slice a1 nc c1):=K0.cell 3
  have k4:wr.cell? ⟨w.heap.size,4,none⟩=some (.slice a3 na c3):=K0.cell 4
  clear K0 K1 hbel
  by_cases hlt:k<nc
  ·obtain ⟨b1,o1,rfl,-,-,-⟩:=HC1.out.get (by omega)
   obtain ⟨b2,o2,rfl,-,-,-⟩:=HC2.out.get (by omega)
   have HD1:=Lib.hid (fun j (hj:j<5)=>HC1.out.cellAt rfl HB.out (i:=k) (j:=j) hlt hj)
   have HD2:=Lib.hid (fun j (hj:j<5)=>HC2.out.cellAt rfl HB.out (i:=k) (j:=j) hlt hj)
   have x0:=HD1.out 0 (by omega)
   have y0:=HD2.out 0 (by omega)
   rw [Nat.add_zero] at x0 y0
   have m0:=cell_regrown (show wr.cell? ⟨w.heap.size,3,none⟩=some (.slice (some ⟨b1,o1,none⟩) nc c1) from J0.out.cell 3)
   have m1:=cell_regrown (show wr.cell? ⟨w.heap.size+1,3,none⟩=some (.slice (some ⟨b2,o2,none⟩) nc c2) from J1.out.cell 3)
   have p0:=cell_regrown (show wr.cell? ⟨b1,o1+k*5,none⟩=some (.int .i64 (ix cl k).h) from x0)
   have p1:=cell_regrown (show wr.cell? ⟨b1,o1+k*5+1,none⟩=some (.int .i64 (ix cl k).r) from HD1.out 1 (by omega))
   have p2:=cell_regrown (show wr.cell? ⟨b1,o1+k*5+2,none⟩=some (.bool (ix cl k).a.n) from HD1.out 2 (by omega))
   have p3:=cell_regrown (show wr.cell? ⟨b1,o1+k*5+3,none⟩=some (.string (ix cl k).a.s) from HD1.out 3 (by omega))
   have p4:=cell_regrown (show wr.cell? ⟨b1,o1+k*5+4,none⟩=some (.string (ix cl k).a.d) from HD1.out 4 (by omega))
   have q0:=cell_regrown (show wr.cell? ⟨b2,o2+k*5,none⟩=some (.int .i64 (ix cl k).h) from y0)
   have q1:=cell_regrown (show wr.cell? ⟨b2,o2+k*5+1,none⟩=some (.int .i64 (ix cl k).r) from HD2.out 1 (by omega))
   have q2:=cell_regrown (show wr.cell? ⟨b2,o2+k*5+2,none⟩=some (.bool (ix cl k).a.n) from HD2.out 2 (by omega))
   have q3:=cell_regrown (show wr.cell? ⟨b2,o2+k*5+3,none⟩=some (.string (ix cl k).a.s) from HD2.out 3 (by omega))
   have q4:=cell_regrown (show wr.cell? ⟨b2,o2+k*5+4,none⟩=some (.string (ix cl k).a.d) from HD2.out 4 (by omega))
   have i1:(0:Int)≤(k:Int):=by omega
   have i2:(k:Int)<(nc:Int):=by omega
   clear x0 y0 HD1 HD2 HQ1 HQ2 HS1 HS2 HLT HLP
   generalize (ix cl k).h=hh at *
   generalize (ix cl k).r=rr at *
   generalize (ix cl k).a.n=an at *
   generalize (ix cl k).a.s=as' at *
   generalize (ix cl k).a.d=ad at *
   go_wp2_with fail
   refine wp_region_qb (by kernel_rfl) (by kernel_rfl) ?_
   repeat (first|go_big_quiet_skip|(refine wpQuiet_step (fun K hK=>?_);go_simp;(try simp (disch:=omega) only [ar9]);(first|(refine hK _ ?_;clear hK K)|(apply Exists.intro;refine ⟨fun _=>?_,hK _ ?_⟩;(fail);clear hK K))))
   clear m0 m1 p0 p1 p2 p3 p4 q0 q1 q2 q3 q4 k3 k4
   refine wpQuiet_nil ?_
   intro W2 hb9
   have J0:=Lib.hid (J0.out.on hb9)
   have J1:=Lib.hid (J1.out.on hb9)
   have HB:=Lib.hid (chain HB.out hb9 (Nat.le_refl _))
   clear hb9
   go_wp2
   go_roundw
   case rel=>exact ⟨k+1,by go_num,by omega,J0.out,J1.out,HB.out⟩
   case measure=>simp [intOf];omega
  ·obtain rfl:k=nc:=by omega
   have hnl:decide ((k:Int)<(k:Int))=false:=by simp
   clear HC1 HC2
   go_wp2_with fail
   clear k3 k4
   go_loopw [6] (fun i wr=>∃ q:Nat,i = .int .i64 q∧q≤na∧Blk wr w.heap.size #[.bool mn,.string ms,.string md,.slice a1 k c1,.slice a3 na c3]∧Blk wr (w.heap.size+1) #[.bool mn,.string ms,.string md,.slice a2 k c2,.slice a4 na c4]∧Below w.heap.size w wr) (fun i _=>na - (intOf i).toNat)
   case atStart=>exact ⟨0,rfl,by omega,J0.out,J1.out,HB.out⟩
   case round =>
    obtain ⟨q,rfl,hq,K0,K1,hbel⟩:=hrel
    have J0:=Lib.hid K0
    have J1:=Lib.hid K1
    have HB:=Lib.hid hbel
    have k4:wr.cell? ⟨w.heap.size,4,none⟩=some (.slice a3 na c3):=K0.cell 4
    clear K0 K1 hbel
    by_cases hlq:q<na
    ·obtain ⟨b1,o1,rfl,-,-,-⟩:=HS1.out.get (by omega)
     obtain ⟨b2,o2,rfl,-,-,-⟩:=HS2.out.get (by omega)
     obtain ⟨a5,c5,hg1,hR1⟩:=HQ1.out q hlq
     obtain ⟨a6,c6,hg2,hR2⟩:=HQ2.out q hlq
     have x0:=HS1.out.cellAt rfl HB.out (i:=q) (j:=0) hlq (by omega)
     have y0:=HS2.out.cellAt rfl HB.out (i:=q) (j:=0) hlq (by omega)
     rw [hg1,Nat.mul_one,Nat.add_zero] at x0
     rw [hg2,Nat.mul_one,Nat.add_zero] at y0
     have HAG:=Lib.hid (fun d9 os9=>(fun (h:Below w.heap.size w (Sort.grow (redrawn wr d9) os9))=>sameagr_eq p p' (ix al q) _ _ _ (hR1.on h) (hR2.on h) (by have:=HLT.out q hlq;omega) (fun j hj=>by have:=HLP.out q j hlq hj;omega)) (HB.out.trans ((below_regrown wr d9 os9).mono HB.out.size)))
     have m0:=cell_regrown (show wr.cell? ⟨w.heap.size,4,none⟩=some (.slice (some ⟨b1,o1,none⟩) na c3) from J0.out.cell 4)
     have m1:=cell_regrown (show wr.cell? ⟨w.heap.size+1,4,none⟩=some (.slice (some ⟨b2,o2,none⟩) na c4) from J1.out.cell 4)
     have p0:=cell_regrown (show wr.cell? ⟨b1,o1+q,none⟩=some (.slice a5 (ix al q).length c5) from x0)
     have q0:=cell_regrown (show wr.cell? ⟨b2,o2+q,none⟩=some (.slice a6 (ix al q).length c6) from y0)
     have i1:(0:Int)≤(q:Int):=by omega
     have i2:(q:Int)<(na:Int):=by omega
     clear x0 y0 hg1 hg2 hR1 hR2 HQ1 HQ2 HS1 HS2 HLT HLP
     generalize (ix al q).length=nq at *
     go_wp2_with fail
     refine wp_region_qb (by kernel_rfl) (by kernel_rfl) ?_
     repeat (first|go_big_quiet_skip|(refine wpQuiet_step (fun K hK=>?_);go_simp;(try simp (disch:=omega) only [ar9]);(first|(refine hK _ ?_;clear hK K)|(apply Exists.intro;refine ⟨fun _=>?_,hK _ ?_⟩;(first|with_reducible exact Calls.later (HAG.out _ _));clear hK K))))
     clear m0 m1 p0 q0 k4
     refine wpQuiet_nil ?_
     intro W2 hb9
     have J0:=Lib.hid (J0.out.on hb9)
     have J1:=Lib.hid (J1.out.on hb9)
     have HB:=Lib.hid (chain HB.out hb9 (Nat.le_refl _))
     clear hb9
     go_wp2
     go_roundw
     case rel=>exact ⟨q+1,by go_num,by omega,J0.out,J1.out,HB.out⟩
     case measure=>simp [intOf];omega
    ·obtain rfl:q=na:=by omega
     have hnl:decide ((q:Int)<(q:Int))=false:=by simp
     go_wp2
     go_ret
     exact ⟨rfl,HB.out⟩
set_option maxRecDepth 100000 in
theorem samegroup_eq (p p' : Nat→Prop) (g:Grp) (v v' : Value) (w:World) (h1:RGrp w p v g) (h2:RGrp w p' v' g) (hl:LimG g) :
  Calls Tryz.prog 19 #[v,v'] w fun x w'=>x = .returned (.bool true)∧Below w.heap.size w w':=by
 have HSE:=Lib.hid (fun i (hi:i<g.e.length) cv av cv' av' w h1 h2 h3 h4=>(show Calls Tryz.prog 46 #[.agg #[.bool (ix g.e i).m.n,.string (ix g.e i).m.s,.string (ix g.e i).m.d,cv,av],.agg #[.bool (ix g.e i).m.n,.string (ix g.e i).m.s,.string (ix g.e i).m.d,cv',av']] w (fun x w'=>x = .returned (.bool true)∧Below w.heap.size w w') from sameestate_eq p p' (ix g.e i) cv av cv' av' w h1 h2 h3 h4 (hl.e i hi)))
 have HSL:=Lib.hid (fun i (hi:i<g.d.length) v v' w h1 h2=>samelegs_eq p p' (ix g.d i).l v v' w h1 h2 (by have:=hl.l i hi;omega))
 have le:=hl.le
 have ld:=hl.ld
 obtain ⟨ev,dv,rfl,⟨G1,hS1,hQ1⟩,⟨D1,hT1,hU1⟩⟩:=h1
 obtain ⟨ev',dv',rfl,⟨G2,hS2,hQ2⟩,⟨D2,hT2,hU2⟩⟩:=h2
 obtain ⟨a1,c1,rfl,-,-⟩:=hS1.form
 obtain ⟨a2,c2,rfl,-,-⟩:=hS2.form
 obtain ⟨a3,c3,rfl,-,-⟩:=hT1.form
 obtain ⟨a4,c4,rfl,-,-⟩:=hT2.form
 have HS1:=Lib.hid hS1
 have HS2:=Lib.hid hS2
 have HT1:=Lib.hid hT1
 have HT2:=Lib.hid hT2
 have HQ1:=Lib.hid (REsts.elem hQ1)
 have HQ2:=Lib.hid (REsts.elem hQ2)
 have HU1:=Lib.hid (RDbts.elem hU1)
 have HU2:=Lib.hid (RDbts.elem hU2)
 clear hl hS1 hS2 hT1 hT2 hQ1 hQ2 hU1 hU2
 generalize hne:g.e.length=ne at *
 generalize hnd:g.d.length=nd at *
 go_enter Tryz.func19,Tryz.ntmps19
 go_wp2_with fail
 refine wp_forget (fun W=>Blk W w.heap.size #[.slice a1 ne c1,.slice a3 nd c3]∧Blk W (w.heap.size+1) #[.slice a2 ne c2,.slice a4 nd c4]∧Below w.heap.size w W) (duo w _ _ _ _) ?_
 rintro W ⟨K0,K1,hbel⟩
 have J0:=Lib.hid K0
 have J1:=Lib.hid K1
 have HB:=Lib.hid hbel
 clear K0 K1 hbel
 go_loopw [5] (fun i wr=>∃ k:Nat,i = .int .i64 k∧k≤ne∧Blk wr w.heap.size #[.slice a1 ne c1,.slice a3 nd c3]∧Blk wr (w.heap.size+1) #[.slice a2 ne c2,.slice a4 nd c4]∧Below w.heap.size w wr) (fun i _=>ne - (intOf i).toNat)
 case atStart=>exact ⟨0,rfl,by omega,J0.out,J1.out,HB.out⟩
 case round =>
  obtain ⟨k,rfl,hk,K0,K1,hbel⟩:=hrel
  have J0:=Lib.hid K0
  have J1:=Lib.hid K1
  have HB:=Lib.hid hbel
  have k0:wr.cell? ⟨w.heap.size,0,none⟩=some (.slice a1 ne c1):=K0.cell 0
  have k1:wr.cell? ⟨w.heap.size,1,none⟩=some (.slice a3 nd c3):=K0.cell 1
  clear K0 K1 hbel
  by_cases hlt:k<ne
  ·obtain ⟨b1,o1,rfl,-,-,-⟩:=HS1.out.get (by omega)
   obtain ⟨b2,o2,rfl,-,-,-⟩:=HS2.out.get (by omega)
   obtain ⟨x1,y1,x2,y2,hg1,hR1,hA1⟩:=HQ1.out k hlt
   obtain ⟨x3,y3,x4,y4,hg2,hR2,hA2⟩:=HQ2.out k hlt
   have HD1:=Lib.hid (fun j (hj:j<5)=>HS1.out.cellAt rfl HB.out (i:=k) (j:=j) hlt hj)
   have HD2:=Lib.hid (fun j (hj:j<5)=>HS2.out.cellAt rfl HB.out (i:=k) (j:=j) hlt hj)
   rw [hg1] at HD1
   rw [hg2] at HD2
   have HAG:=Lib.hid (fun d9 os9=>(fun (h:Below w.heap.size w (Sort.grow (redrawn wr d9) os9))=>HSE.out k hlt _ _ _ _ _ (hR1.on h) (hA1.on h) (hR2.on h) (hA2.on h)) (HB.out.trans ((below_regrown wr d9 os9).mono HB.out.size)))
   have z1:=HD1.out 0 (by omega)
   have z2:=HD2.out 0 (by omega)
   rw [Nat.add_zero] at z1 z2
   have m0:=cell_regrown (show wr.cell? ⟨w.heap.size,0,none⟩=some (.slice (some ⟨b1,o1,none⟩) ne c1) from J0.out.cell 0)
   have m1:=cell_regrown (show wr.cell? ⟨w.heap.size+1,0,none⟩=some (.slice (some ⟨b2,o2,none⟩) ne c2) from J1.out.cell 0)
   have p0:=cell_regrown (show wr.cell? ⟨b1,o1+k*5,none⟩=some (.bool (ix g.e k).m.n) from z1)
   have p1:=cell_regrown (show wr.cell? ⟨b1,o1+k*5+1,none⟩=some (.string (ix g.e k).m.s) from HD1.out 1 (by omega))
   have p2:=cell_regrown (show wr.cell? ⟨b1,o1+k*5+2,none⟩=some (.string (ix g.e k).m.d) from HD1.out 2 (by omega))
   have p3:=cell_regrown (show wr.cell? ⟨b1,o1+k*5+3,none⟩=some (.slice x1 (ix g.e k).c.length y1) from HD1.out 3 (by omega))
   have p4:=cell_regrown (show wr.cell? ⟨b1,o1+k*5+4,none⟩=some (.slice x2 (ix g.e k).a.length y2) from HD1.out 4 (by omega))
   have q0:=cell_regrown (show wr.cell? ⟨b2,o2+k*5,none⟩=some (.bool (ix g.e k).m.n) from z2)
   have q1:=cell_regrown (show wr.cell? ⟨b2,o2+k*5+1,none⟩=some (.string (ix g.e k).m.s) from HD2.out 1 (by omega))
   have q2:=cell_regrown (show wr.cell? ⟨b2,o2+k*5+2,none⟩=some (.string (ix g.e k).m.d) from HD2.out 2 (by omega))
   have q3:=cell_regrown (show wr.cell? ⟨b2,o2+k*5+3,none⟩=some (.slice x3 (ix g.e k).c.length y3) from HD2.out 3 (by omega))
   have q4:=cell_regrown (show wr.cell? ⟨b2,o2+k*5+4,none⟩=some (.slice x4 (ix g.e k).a.length y4) from HD2.out 4 (by omega))
   have i1:(0:Int)≤(k:Int):=by omega
   have i2:(k:Int)<(ne:Int):=by omega
   clear z1 z2 HD1 HD2 hg1 hg2 hR1 hR2 hA1 hA2 HQ1 HQ2 HU1 HU2 HSE HSL
   generalize (ix g.e k).m.n=mn at *
   generalize (ix g.e k).m.s=ms at *
   generalize (ix g.e k).m.d=md at *
   generalize (ix g.e k).c.length=nc at *
   generalize (ix g.e k).a.length=na at *
   go_wp2_with fail
   refine wp_region_qb (by kernel_rfl) (by kernel_rfl) ?_
   repeat (first|go_big_quiet_skip|(refine wpQuiet_step (fun K hK=>?_);go_simp;(try simp (disch:=omega) only [ar9]);(first|(refine hK _ ?_;clear hK K)|(apply Exists.intro;refine ⟨fun _=>?_,hK _ ?_⟩;(first|with_reducible exact Calls.later (HAG.out _ _));clear hK K))))
   clear m0 m1 p0 p1 p2 p3 p4 q0 q1 q2 q3 q4 k0 k1
   refine wpQuiet_nil ?_
   intro W2 hb9
   have J0:=Lib.hid (J0.out.on hb9)
   have J1:=Lib.hid (J1.out.on hb9)
   have HB:=Lib.hid (chain HB.out hb9 (Nat.le_refl _))
   clear hb9
   go_wp2
   go_roundw
   case rel=>exact ⟨k+1,by go_num,by omega,J0.out,J1.out,HB.out⟩
   case measure=>simp [intOf];omega
  ·obtain rfl:k=ne:=by omega
   have hnl:decide ((k:Int)<(k:Int))=false:=by simp
   clear HS1 HS2 HQ1 HQ2 HSE
   go_wp2_with fail
   clear k0 k1
   go_loopw [6] (fun i wr=>∃ q:Nat,i = .int .i64 q∧q≤nd∧Blk wr w.heap.size #[.slice a1 k c1,.slice a3 nd c3]∧Blk wr (w.heap.size+1) #[.slice a2 k c2,.slice a4 nd c4]∧Below w.heap.size w wr) (fun i _=>nd - (intOf i).toNat)
   case atStart=>exact ⟨0,rfl,by omega,J0.out,J1.out,HB.out⟩
   case round =>
    obtain ⟨q,rfl,hq,K0,K1,hbel⟩:=hrel
    have J0:=Lib.hid K0
    have J1:=Lib.hid K1
    have HB:=Lib.hid hbel
    have k1:wr.cell? ⟨w.heap.size,1,none⟩=some (.slice a3 nd c3):=K0.cell 1
    clear K0 K1 hbel
    by_cases hlq:q<nd
    ·obtain ⟨b1,o1,rfl,-,-,-⟩:=HT1.out.get (by omega)
     obtain ⟨b2,o2,rfl,-,-,-⟩:=HT2.out.get (by omega)
     obtain ⟨x1,y1,hg1,hR1⟩:=HU1.out q hlq
     obtain ⟨x3,y3,hg2,hR2⟩:=HU2.out q hlq
     have HD1:=Lib.hid (fun j (hj:j<4)=>HT1.out.cellAt rfl HB.out (i:=q) (j:=j) hlq hj)
     have HD2:=Lib.hid (fun j (hj:j<4)=>HT2.out.cellAt rfl HB.out (i:=q) (j:=j) hlq hj)
     rw [hg1] at HD1
     rw [hg2] at HD2
     have HAG:=Lib.hid (fun d9 os9=>(fun (h:Below w.heap.size w (Sort.grow (redrawn wr d9) os9))=>HSL.out q hlq _ _ _ (hR1.on h) (hR2.on h)) (HB.out.trans ((below_regrown wr d9 os9).mono HB.out.size)))
     have z1:=HD1.out 0 (by omega)
     have z2:=HD2.out 0 (by omega)
     rw [Nat.add_zero] at z1 z2
     have m0:=cell_regrown (show wr.cell? ⟨w.heap.size,1,none⟩=some (.slice (some ⟨b1,o1,none⟩) nd c3) from J0.out.cell 1)
     have m1:=cell_regrown (show wr.cell? ⟨w.heap.size+1,1,none⟩=some (.slice (some ⟨b2,o2,none⟩) nd c4) from J1.out.cell 1)
     have p0:=cell_regrown (show wr.cell? ⟨b1,o1+q*4,none⟩=some (.bool (ix g.d q).w.n) from z1)
     have p1:=cell_regrown (show wr.cell? ⟨b1,o1+q*4+1,none⟩=some (.string (ix g.d q).w.s) from HD1.out 1 (by omega))
     have p2:=cell_regrown (show wr.cell? ⟨b1,o1+q*4+2,none⟩=some (.string (ix g.d q).w.d) from HD1.out 2 (by omega))
     have p3:=cell_regrown (show wr.cell? ⟨b1,o1+q*4+3,none⟩=some (.slice x1 (ix g.d q).l.length y1) from HD1.out 3 (by omega))
     have q0:=cell_regrown (show wr.cell? ⟨b2,o2+q*4,none⟩=some (.bool (ix g.d q).w.n) from z2)
     have q1:=cell_regrown (show wr.cell? ⟨b2,o2+q*4+1,none⟩=some (.string (ix g.d q).w.s) from HD2.out 1 (by omega))
     have q2:=cell_regrown (show wr.cell? ⟨b2,o2+q*4+2,none⟩=some (.string (ix g.d q).w.d) from HD2.out 2 (by omega))
     have q3:=cell_regrown (show wr.cell? ⟨b2,o2+q*4+3,none⟩=some (.slice x3 (ix g.d q).l.length y3) from HD2.out 3 (by omega))
     have i1:(0:Int)≤(q:Int):=by omega
     have i2:(q:Int)<(nd:Int):=by omega
     clear z1 z2 HD1 HD2 hg1 hg2 hR1 hR2 HU1 HU2 HSL
     generalize (ix g.d q).w.n=wn at *
     generalize (ix g.d q).w.s=ws at *
     generalize (ix g.d q).w.d=wd at *
     generalize (ix g.d q).l.length=nl at *
     go_wp2_with fail
     refine wp_region_qb (by kernel_rfl) (by kernel_rfl) ?_
     repeat (first|go_big_quiet_skip|(refine wpQuiet_step (fun K hK=>?_);go_simp;(try simp (disch:=omega) only [ar9]);(first|(refine hK _ ?_;clear hK K)|(apply Exists.intro;refine ⟨fun _=>?_,hK _ ?_⟩;(first|with_reducible exact Calls.later (HAG.out _ _));clear hK K))))
     clear m0 m1 p0 p1 p2 p3 q0 q1 q2 q3 k1
     refine wpQuiet_nil ?_
     intro W2 hb9
     have J0:=Lib.hid (J0.out.on hb9)
     have J1:=Lib.hid (J1.out.on hb9)
     have HB:=Lib.hid (chain HB.out hb9 (Nat.le_refl _))
     clear hb9
     go_wp2
     go_roundw
     case rel=>exact ⟨q+1,by go_num,by omega,J0.out,J1.out,HB.out⟩
     case measure=>simp [intOf];omega
    ·obtain rfl:q=nd:=by omega
     have hnl:decide ((q:Int)<(q:Int))=false:=by simp
     go_wp2
     go_ret
     exact ⟨rfl,HB.out⟩
end Go.Proofs.Ins
namespace Go.Proofs.Xe
open Go.RowKit Go.Proofs.Ins
noncomputable section
open Classical in
def orcS (args:List V) (σ:St):Option (V×St):=match args with
 | [.agg [a,b],.agg [c,d]]=>if ∃ g,HGrp (fun _=>True) σ.h a b g∧HGrp (fun _=>True) σ.h c d g∧LimG g then some (.c (.bool true),σ) else none
 | _=>none
def orcG (f:Nat) (args:List V) (σ:St):Option (V×St):=if f=19 then orcS args σ else orcH f args σ
end
theorem orcG_ok (f:Nat) (args:List V) (σ:St) (v:V) (σ' : St) (h:orcG f args σ=some (v,σ')):okF Tryz.prog f∧∀ (N:Nat) (w0:World) (φ:Ph) (w:World) (cargs:Array Value),Rel N w0 φ σ w→RVs φ args cargs.toList →
  Calls Tryz.prog f cargs w fun e w'=>∃ cv,e = .returned cv∧∃ φ',Ext σ.nxt φ φ'∧Rel N w0 φ' σ' w'∧RV φ' v cv∧σ.nxt≤σ'.nxt:=by
 unfold orcG at h
 split at h
 ·next e =>
  subst e
  unfold orcS at h
  split at h
  ·split at h
   ·next hx =>
    cases h
    obtain ⟨g,h1,h2,hl⟩:=hx
    refine ⟨okF_of (by kernel_rfl),fun N w0 φ w cargs hR ha=>?_⟩
    obtain ⟨cl⟩:=cargs
    match cl,ha with
    | [u,t],⟨hu,ht,_⟩ =>
     exact (samegroup_eq (InW w) (InW w) g u t w (h1.un hR hu) (h2.un hR ht) hl).mono fun e w' he=>⟨_,he.1,φ,Ext.refl _ _,hR.below he.2,rfl,Nat.le_refl _⟩
   ·cases h
  ·cases h
 ·exact orcH_ok f args σ v σ' h
end Go.Proofs.Xe

namespace Go.Proofs.Xe
open Go.RowKit Go.Proofs.Ins
def AwakeOk (f:Nat):Prop:=okF Tryz.prog f∧∀ w,Calls Tryz.prog f #[] w fun e w'=>e = .returned (.bool true)∧Below w.heap.size w w'
def awN:List Nat:=[
 9,
 23,
 1000000]
noncomputable section
open Classical in
def orcW (f:Nat) (args:List V) (σ:St):Option (V×St):=bif awN.contains f then (match args with|[]=>if AwakeOk f then some (.c (.bool true),σ) else none|_=>none) else none
def orcA (f:Nat) (args:List V) (σ:St):Option (V×St):=match orcE f args σ with
 | some r=>some r
 | none=>match orcG f args σ with
  | some r=>some r
  | none=>orcW f args σ
end
theorem orcA_ok (f:Nat) (args:List V) (σ:St) (v:V) (σ' : St) (h:orcA f args σ=some (v,σ')):okF Tryz.prog f∧∀ (N:Nat) (w0:World) (φ:Ph) (w:World) (cargs:Array Value),Rel N w0 φ σ w→RVs φ args cargs.toList →
  Calls Tryz.prog f cargs w fun e w'=>∃ cv,e = .returned cv∧∃ φ',Ext σ.nxt φ φ'∧Rel N w0 φ' σ' w'∧RV φ' v cv∧σ.nxt≤σ'.nxt:=by
 unfold orcA at h
 split at h
 ·next r hr=>cases h;exact orcE_ok f args σ v σ' hr
 ·split at h
  ·next r hr=>cases h;exact orcG_ok f args σ v σ' hr
  ·unfold orcW at h
   cases hb:awN.contains f with
   | false=>rw [hb] at h;cases h
   | true =>
    rw [hb] at h
    simp only [cond_true] at h
    split at h
    ·split at h
     ·next ha =>
      cases h
      refine ⟨ha.1,fun N w0 φ w cargs hR hargs=>?_⟩
      obtain ⟨l⟩:=cargs
      match l,hargs with
      | [],_=>exact (ha.2 w).mono fun e w' he=>⟨_,he.1,φ,Ext.refl _ _,hR.below he.2,rfl,Nat.le_refl _⟩
     ·cases h
    ·cases h
class HasA (E:Env):Prop where
 a : ∀ f args σ r,orcA f args σ=some r→E.orc f args σ=some r
instance {E:Env} [h:HasA E]:HasO E:=⟨fun f args σ v hv=>h.a f args σ _ (by unfold orcA orcE;rw [hv])⟩
theorem callX_orc {E:Env} [hE:HasA E] {f:Nat} {args:List V} {v:V} {σ σ2:St} {K:V→St→Prop} (h:orcA f args σ=some (v,σ2)):CallX E f args σ K=K v σ2:=by
 refine propext ⟨fun ⟨n,v',σ',h1,h2⟩=>?_,fun hk=>call_orc (hE.a f args σ _ h) hk⟩
 have h3:callF E 1 f args σ=some (v,σ2):=by rw [callF];unfold xCall;rw [hE.a f args σ _ h]
 have a:=callF_mono (show n≤n+1 by omega) f args σ _ h1
 have b:=callF_mono (show 1≤n+1 by omega) f args σ _ h3
 rw [a] at b
 cases b
 exact h2
section
variable {E:Env} [HasA E] {σ:St} {K:V→St→Prop}
theorem x_awake21 (h:AwakeOk 9):CallX E 9 [] σ K=K (.c (.bool true)) σ :=
 callX_orc (by
  unfold orcA orcE orcP
  first|(unfold orcG orcH orcW)|(unfold orcG orcW)
  simp only [Nat.reduceEqDiff,reduceIte,show awN.contains 9=true from rfl,cond_true,if_pos h])
end
end Go.Proofs.Xe
