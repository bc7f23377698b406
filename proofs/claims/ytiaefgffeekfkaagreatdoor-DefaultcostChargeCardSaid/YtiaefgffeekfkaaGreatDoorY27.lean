/- The walk of insolvencyref17.debt. -/
import Derived.Test.YtiaefgffeekfkaaGreatDoorY26
set_option linter.unusedSimpArgs false
set_option linter.unusedVariables false
set_option maxHeartbeats 8000000
namespace Go.Proofs.Ins
open Go.RowKit
theorem Blk.set5 {w:World} {b:Nat} {x0 x1 x2 x3 x4:Value} (h:Blk w b #[x0,x1,x2,x3,x4]) (y0 y1 y2 y3 y4:Value) :
  Blk (((((w.setCell ⟨b,0,none⟩ y0).setCell ⟨b,1,none⟩ y1).setCell ⟨b,2,none⟩ y2).setCell ⟨b,3,none⟩ y3).setCell ⟨b,4,none⟩ y4) b #[y0,y1,y2,y3,y4]:=((((h.set 0 y0).set 1 y1).set 2 y2).set 3 y3).set 4 y4
theorem below_set5 {B b:Nat} {w w' : World} (h:Below B w w') (hb:B≤b) (y0 y1 y2 y3 y4:Value) :
  Below B w (((((w'.setCell ⟨b,0,none⟩ y0).setCell ⟨b,1,none⟩ y1).setCell ⟨b,2,none⟩ y2).setCell ⟨b,3,none⟩ y3).setCell ⟨b,4,none⟩ y4):=((((h.setCell hb _).setCell hb _).setCell hb _).setCell hb _).setCell hb _
set_option maxRecDepth 100000 in
theorem claim_any (p:Nat→Prop) (g:Grp) (i j:Nat) (v:Value) (w:World) (hG:RGrp w p v g) (hi:i<g.e.length) (hj:j<(ix g.e i).c.length) (le:g.e.length≤140737488351232) (lc:(ix g.e i).c.length≤140737488351232) :
  Calls Tryz.prog 135 #[v,.agg #[.int .i64 (i:Int),.int .i64 (j:Int)]] w fun e w'=>e = .returned (.agg (ix (ix g.e i).c j).c.toArray)∧Below w.heap.size w w':=by
 obtain ⟨ev,dv,rfl,hE,-⟩:=hG
 obtain ⟨G,hS,hQ⟩:=hE
 obtain ⟨aa,cap,rfl,-,-⟩:=hS.form
 obtain ⟨b,off,rfl,-,-,-⟩:=hS.get (by omega)
 obtain ⟨cv,av,hg,hC,-⟩:=hQ i hi
 obtain ⟨a2,cap2,rfl,-,-⟩:=hC.plain.form
 obtain ⟨b2,off2,rfl,-,-,-⟩:=hC.plain.get (by omega)
 have HE:=Lib.hid (fun W (h:Below w.heap.size w W)=>hS.cellAt rfl h (i:=i) (j:=3) hi (by omega))
 have HC:=Lib.hid (fun W (h:Below w.heap.size w W) k (hk:k<5)=>hC.plain.cellAt rfl h (i:=j) (j:=k) hj hk)
 rw [hg] at HE
 have i1:(0:Int)≤(i:Int):=by omega
 have i2:(i:Int)<(g.e.length:Int):=by omega
 have j1:(0:Int)≤(j:Int):=by omega
 have j2:(j:Int)<((ix g.e i).c.length:Int):=by omega
 unfold C5.c at HC
 unfold C5.c
 clear hS hQ hC hg
 generalize hn:g.e.length=n at *
 generalize hm:(ix g.e i).c.length=m at *
 generalize ix (ix g.e i).c j=P at *
 generalize P.h=x0 at *
 generalize P.r=x1 at *
 generalize P.a.n=x2 at *
 generalize P.a.s=x3 at *
 generalize P.a.d=x4 at *
 go_enter Tryz.func135,Tryz.ntmps135
 go_wp2_with fail
 refine wp_forget (fun W=>Blk W w.heap.size #[.slice (some ⟨b,off,none⟩) n cap,dv]∧Blk W (w.heap.size+1) #[.int .i64 (i:Int),.int .i64 (j:Int)]∧Blk W (w.heap.size+1+1) #[.int .i64 0,.int .i64 0,.bool false,.string ⟨#[]⟩,.string ⟨#[]⟩]∧Below w.heap.size w W) (three_boxes w _ _ _ _ _ _) ?_
 rintro W ⟨h0,h1,h2,hbel⟩
 have k0:=cell_regrown (show W.cell? ⟨w.heap.size,0,none⟩=some (Value.slice (some ⟨b,off,none⟩) n cap) from h0.cell 0)
 have k1:=cell_regrown (show W.cell? ⟨w.heap.size+1,0,none⟩=some (Value.int .i64 (i:Int)) from h1.cell 0)
 have k2:=cell_regrown (show W.cell? ⟨w.heap.size+1,1,none⟩=some (Value.int .i64 (j:Int)) from h1.cell 1)
 have k3:=cell_regrown (show W.cell? ⟨b,off+i*5+3,none⟩=some (Value.slice (some ⟨b2,off2,none⟩) m cap2) from HE.out W hbel)
 have k4:=cell_regrown (show W.cell? ⟨b2,off2+j*5,none⟩=some (Value.int .i64 x0) from HC.out W hbel 0 (by omega))
 have k5:=cell_regrown (show W.cell? ⟨b2,off2+j*5+1,none⟩=some (Value.int .i64 x1) from HC.out W hbel 1 (by omega))
 have k6:=cell_regrown (show W.cell? ⟨b2,off2+j*5+2,none⟩=some (Value.bool x2) from HC.out W hbel 2 (by omega))
 have k7:=cell_regrown (show W.cell? ⟨b2,off2+j*5+3,none⟩=some (Value.string x3) from HC.out W hbel 3 (by omega))
 have k8:=cell_regrown (show W.cell? ⟨b2,off2+j*5+4,none⟩=some (Value.string x4) from HC.out W hbel 4 (by omega))
 have J:=Lib.hid h2
 have HB:=Lib.hid hbel
 clear h0 h1 h2 hbel HE HC
 refine wp_region_qbt 11 (by kernel_rfl) (by kernel_rfl) ?_
 simp only [List.take_succ_cons,List.take_zero,List.drop_succ_cons,List.drop_zero]
 repeat (first|go_big_quiet_skip|(refine wpQuiet_step (fun K hK=>?_);go_simp;(try simp (disch:=omega) only [ar9]);(first|(refine hK _ ?_;clear hK K)|(apply Exists.intro;refine ⟨fun _=>?_,hK _ ?_⟩;(fail);clear hK K))))
 clear k0 k1 k2 k3 k4 k5 k6 k7 k8
 refine wpQuiet_nil ?_
 intro W1 hb1
 have J:=Lib.hid (J.out.on hb1)
 have HB:=Lib.hid (chain HB.out hb1 (Nat.le_refl _))
 clear hb1
 obtain ⟨q0,q1,q2,q3,q4⟩:=J.out.c5
 have f0:=J.out.frozen 0
 have f1:=J.out.frozen 1
 have f2:=J.out.frozen 2
 have f3:=J.out.frozen 3
 have f4:=J.out.frozen 4
 go_wp2
 refine bodyPost_forget (fun W=>Blk W (w.heap.size+1+1) #[.int .i64 x0,.int .i64 x1,.bool x2,.string x3,.string x4]∧Below w.heap.size w W) ⟨J.out.set5 _ _ _ _ _,below_set5 HB.out (by omega) _ _ _ _ _⟩ ?_
 rintro WR ⟨hr9,hb9⟩
 obtain ⟨y0,y1,y2,y3,y4⟩:=hr9.c5
 exact bodyPost_ret (v:=.agg #[.int .i64 x0,.int .i64 x1,.bool x2,.string x3,.string x4]) (by simp [results,Tryz.results135,go_sem,y0,y1,y2,y3,y4]) rfl ⟨rfl,hb9⟩
theorem fndK_some {t:List Lg} {x:Lg} : ∀ {n k:Nat},fndK t x n=some k→k<n∧lgEq (ix t k) x=true∧∀ i,i<k→lgEq (ix t i) x=false
 | 0,k,h=>by cases h
 | n+1,k,h=>by
  unfold fndK at h
  cases hf:fndK t x n with
  | some i =>
   rw [hf] at h
   simp only [Option.some.injEq] at h
   subst h
   obtain ⟨h1,h2,h3⟩:=fndK_some hf
   exact ⟨by omega,h2,h3⟩
  | none =>
   rw [hf] at h
   cases hb:lgEq (ix t n) x
   ·simp [hb] at h
   ·simp [hb] at h
    subst h
    exact ⟨by omega,hb,fndK_none.mp hf⟩
theorem fndD_some {l:List Dbt} {x:Lg} : ∀ {n:Nat} {r:Nat×Nat},fndD l x n=some r→r.1<n∧r.2<(ix l r.1).l.length∧lgEq (ix (ix l r.1).l r.2) x=true∧(∀ i,i<r.2→lgEq (ix (ix l r.1).l i) x=false)∧∀ i,i<r.1→fndK (ix l i).l x (ix l i).l.length=none
 | 0,r,h=>by cases h
 | n+1,r,h=>by
  unfold fndD at h
  cases hf:fndD l x n with
  | some i =>
   rw [hf] at h
   simp only [Option.some.injEq] at h
   subst h
   obtain ⟨h1,h2⟩:=fndD_some hf
   exact ⟨by omega,h2⟩
  | none =>
   rw [hf] at h
   simp only [Option.map_eq_some_iff] at h
   obtain ⟨k,hk,rfl⟩:=h
   obtain ⟨h1,h2,h3⟩:=fndK_some hk
   exact ⟨by omega,h1,h2,h3,fun i hi=>fndD_none.mp hf i hi⟩
theorem hasLg_true {s:List Lg} {x:Lg} : hasLg s x=true↔∃ y,y∈s∧lgEq y x=true:=by
 unfold hasLg;rw [List.any_eq_true];rfl
theorem mem_legsB {l:List Dbt} {d k:Nat} {y:Lg} (hd:d<l.length) (hk:k≤(ix l d).l.length):y∈legsB l d k↔(∃ i j,i<d∧j<(ix l i).l.length∧y=ix (ix l i).l j)∨∃ j,j<k∧y=ix (ix l d).l j:=by
 unfold legsB
 rw [List.mem_append,List.mem_flatMap]
 constructor
 ·rintro (⟨a,ha,hy⟩|hy)
  ·obtain ⟨i,hi,hae⟩:=List.getElem_of_mem ha
   rw [List.length_take] at hi
   have e:a=ix l i:=by rw [← hae,List.getElem_take,ix_lt (by omega)]
   subst e
   obtain ⟨j,hj,rfl⟩:=List.getElem_of_mem hy
   exact .inl ⟨i,j,by omega,hj,(ix_lt hj).symm⟩
  ·obtain ⟨j,hj,rfl⟩:=List.getElem_of_mem hy
   rw [List.length_take] at hj
   exact .inr ⟨j,by omega,by rw [List.getElem_take];exact (ix_lt (by omega)).symm⟩
 ·rintro (⟨i,j,hi,hj,rfl⟩|⟨j,hj,rfl⟩)
  ·refine .inl ⟨ix l i,?_,ix_mem hj⟩
   rw [← ix_take hi];exact ix_mem (by rw [List.length_take];omega)
  ·refine .inr ?_
   rw [← ix_take hj];exact ix_mem (by rw [List.length_take];omega)
def isAt (d' k' d k:Nat):Prop:=d' = d∧k' = k
theorem fndD_at {l:List Dbt} {d k:Nat} (hd:d<l.length) (hk:k<(ix l d).l.length) : ∃ d' k',fndD l (ix (ix l d).l k) l.length=some (d',k')∧(hasLg (legsB l d k) (ix (ix l d).l k)=true↔¬ (d' = d∧k' = k)):=by
 have hself:lgEq (ix (ix l d).l k) (ix (ix l d).l k)=true:=by unfold lgEq;simp
 cases hf:fndD l (ix (ix l d).l k) l.length with
 | none =>
  have:=fndK_none.mp (fndD_none.mp hf d hd) k hk
  rw [hself] at this;cases this
 | some r =>
  obtain ⟨h1,h2,h3,h4,h5⟩:=fndD_some hf
  refine ⟨r.1,r.2,rfl,?_⟩
  rw [hasLg_true]
  constructor
  ·rintro ⟨y,hy,e⟩ ⟨e1,e2⟩
   rcases (mem_legsB hd (by omega)).mp hy with ⟨i,j,hi,hj,rfl⟩|⟨j,hj,rfl⟩
   ·have:=fndK_none.mp (h5 i (by omega)) j hj
    rw [this] at e;cases e
   ·have:=h4 j (by omega)
    rw [e1] at this;rw [this] at e;cases e
  ·intro hne
   refine ⟨_,(mem_legsB hd (by omega)).mpr ?_,h3⟩
   by_cases hlt:r.1<d
   ·exact .inl ⟨_,_,hlt,h2,rfl⟩
   ·by_cases heq:r.1=d
    ·right
     by_cases hk2:r.2<k
     ·exact ⟨_,hk2,by rw [heq]⟩
     ·have:k<r.2:=by
       rcases Nat.lt_or_ge k r.2 with h|h
       ·exact h
       ·exact absurd ⟨heq,by omega⟩ hne
      have:=h4 k this
      rw [heq,hself] at this;cases this
    ·have:=fndK_none.mp (h5 d (by omega)) k hk
     rw [hself] at this;cases this
theorem chkL_1 {g:Grp} {d k:Nat} (h:(ix (ix g.d d).l k).e<0∨(g.e.length:Int)≤(ix (ix g.d d).l k).e∨(ix (ix g.d d).l k).k<0∨((ix g.e (ix (ix g.d d).l k).e.toNat).c.length:Int)≤(ix (ix g.d d).l k).k):chkL g d k=1:=by
 unfold chkL;simp only;rw [if_pos h]
theorem chkL_2 {g:Grp} {d k:Nat} (h : ¬ ((ix (ix g.d d).l k).e<0∨(g.e.length:Int)≤(ix (ix g.d d).l k).e∨(ix (ix g.d d).l k).k<0∨((ix g.e (ix (ix g.d d).l k).e.toNat).c.length:Int)≤(ix (ix g.d d).l k).k)) (h2:hasLg (legsB g.d d k) (ix (ix g.d d).l k)=true):chkL g d k=20:=by
 unfold chkL;simp only;rw [if_neg h,if_pos h2]
theorem chkL_3 {g:Grp} {d k:Nat} (h : ¬ ((ix (ix g.d d).l k).e<0∨(g.e.length:Int)≤(ix (ix g.d d).l k).e∨(ix (ix g.d d).l k).k<0∨((ix g.e (ix (ix g.d d).l k).e.toNat).c.length:Int)≤(ix (ix g.d d).l k).k)) (h2 : ¬ hasLg (legsB g.d d k) (ix (ix g.d d).l k)=true) (h3:holdL g.e (ix (ix g.d d).l k)≠holdL g.e (ix (ix g.d d).l 0)):chkL g d k=19:=by
 unfold chkL;simp only;rw [if_neg h,if_neg h2,if_pos h3]
theorem chkL_4 {g:Grp} {d k:Nat} (h : ¬ ((ix (ix g.d d).l k).e<0∨(g.e.length:Int)≤(ix (ix g.d d).l k).e∨(ix (ix g.d d).l k).k<0∨((ix g.e (ix (ix g.d d).l k).e.toNat).c.length:Int)≤(ix (ix g.d d).l k).k)) (h2 : ¬ hasLg (legsB g.d d k) (ix (ix g.d d).l k)=true) (h3:holdL g.e (ix (ix g.d d).l k)=holdL g.e (ix (ix g.d d).l 0)):chkL g d k=0:=by
 unfold chkL;simp only;rw [if_neg h,if_neg h2,if_neg (by simp [h3])]
theorem chkL_range {g:Grp} {d k:Nat} (h:chkL g d k=0) : ¬ ((ix (ix g.d d).l k).e<0∨(g.e.length:Int)≤(ix (ix g.d d).l k).e∨(ix (ix g.d d).l k).k<0∨((ix g.e (ix (ix g.d d).l k).e.toNat).c.length:Int)≤(ix (ix g.d d).l k).k):=fun h2=>by
 rw [chkL_1 h2] at h;cases h
theorem chkD_1 {g:Grp} {d:Nat} (h:8<(ix g.d d).l.length):chkD g d=2:=by unfold chkD;rw [if_pos h]
theorem chkD_2 {g:Grp} {d:Nat} (h : ¬ 8<(ix g.d d).l.length) (h2:sg (ix g.d d).w.q<0):chkD g d=7:=by unfold chkD;rw [if_neg h,if_pos h2]
theorem chkD_3 {g:Grp} {d k:Nat} (h : ¬ 8<(ix g.d d).l.length) (h2 : ¬ sg (ix g.d d).w.q<0) (hk:k<(ix g.d d).l.length) (h3 : ∀ i,i<k→chkL g d i=0) (h4:chkL g d k≠0):chkD g d=chkL g d k:=by
 unfold chkD;rw [if_neg h,if_neg h2,fnz_hit h3 h4 hk]
theorem chkD_4 {g:Grp} {d:Nat} (h : ¬ 8<(ix g.d d).l.length) (h2 : ¬ sg (ix g.d d).w.q<0) (h3 : ∀ i,i<(ix g.d d).l.length→chkL g d i=0):chkD g d=0:=by
 unfold chkD;rw [if_neg h,if_neg h2,fnz_none h3]
set_option maxRecDepth 100000 in
theorem debt_any (p:Nat→Prop) (g:Grp) (d:Nat) (v:Value) (w:World) (hG:RGrp w p v g) (hd:d<g.d.length) (hs:SmallG 134217728 g) :
  Calls Tryz.prog 80 #[v,.int .i64 (d:Int)] w fun e w'=>e = .returned (.int .i64 (chkD g d))∧Below w.heap.size w w':=by
 have HGR:=Lib.hid hG
 obtain ⟨ev,dv,rfl,hE,hD⟩:=hG
 have HDB:=Lib.hid hD
 have HEB:=Lib.hid hE
 have HLEG:=Lib.hid (fun x w (h:RDbts w p dv g.d)=>leg_any p ev dv g.d x w h hs.ld hs.ll)
 have HCLM:=Lib.hid (fun i j w (h:RGrp w p (.agg #[ev,dv]) g) hi hj=>(show Calls Tryz.prog 135 #[.agg #[ev,dv],.agg #[.int .i64 ((i:Nat):Int),.int .i64 ((j:Nat):Int)]] w (fun e w'=>e = .returned (.agg #[.int .i64 (ix (ix g.e i).c j).h,.int .i64 (ix (ix g.e i).c j).r,.bool (ix (ix g.e i).c j).a.n,.string (ix (ix g.e i).c j).a.s,.string (ix (ix g.e i).c j).a.d])∧Below w.heap.size w w') from claim_any p g i j (.agg #[ev,dv]) w h hi hj hs.le (hs.e i hi).lc))
 have HSG:=Lib.hid (fun w=>rsign_r3 (ix g.d d).w w (hs.w d hd))
 have HAT:=Lib.hid (fun k hk=>fndD_at (l:=g.d) (d:=d) (k:=k) hd hk)
 have hlc:=fun i hi=>(hs.e i hi).lc
 have HLC9:=Lib.hid hlc
 have hld:=hs.ld
 have hll:=hs.ll d hd
 have hle:=hs.le
 obtain ⟨GE,hSE,hQE⟩:=hE
 obtain ⟨ae,cape,rfl,-,-⟩:=hSE.form
 obtain ⟨GD,hSD,hQD⟩:=hD
 obtain ⟨ad,capd,rfl,-,-⟩:=hSD.form
 obtain ⟨bd,offd,rfl,-,-,-⟩:=hSD.get (by omega)
 obtain ⟨lv,hgd,hL⟩:=hQD d hd
 obtain ⟨al,capl,rfl,-,-⟩:=hL.plain.form
 have HDC:=Lib.hid (fun W (h:Below w.heap.size w W) j (hj:j<4)=>hSD.cellAt rfl h (i:=d) (j:=j) hd hj)
 rw [hgd] at HDC
 have HSE:=Lib.hid hSE
 have HQE:=Lib.hid hQE
 have HL:=Lib.hid hL.plain
 have E1:=Lib.hid (fun h=>chkD_1 (g:=g) (d:=d) h)
 have E2:=Lib.hid (fun h h2=>chkD_2 (g:=g) (d:=d) h h2)
 have E3:=Lib.hid (fun k h h2 h3 h4 h5=>chkD_3 (g:=g) (d:=d) (k:=k) h h2 h3 h4 h5)
 have E4:=Lib.hid (fun h h2 h3=>chkD_4 (g:=g) (d:=d) h h2 h3)
 have L1:=Lib.hid (fun k h=>chkL_1 (g:=g) (d:=d) (k:=k) h)
 have L2:=Lib.hid (fun k h h2=>chkL_2 (g:=g) (d:=d) (k:=k) h h2)
 have L3:=Lib.hid (fun k h h2 h3=>chkL_3 (g:=g) (d:=d) (k:=k) h h2 h3)
 have L4:=Lib.hid (fun k h h2 h3=>chkL_4 (g:=g) (d:=d) (k:=k) h h2 h3)
 have LR:=Lib.hid (fun k h=>chkL_range (g:=g) (d:=d) (k:=k) h)
 have d0:(0:Int)≤(d:Int):=by omega
 have d1:(d:Int)<(g.d.length:Int):=by omega
 clear hs hSE hQE hSD hQD hgd hL hlc
 generalize chkD g d=R at *
 generalize hcl:(fun k=>chkL g d k)=CL at *
 have hcl' : ∀ k,chkL g d k=CL k:=fun k=>by rw [← hcl]
 simp only [hcl'] at E3 E4 L1 L2 L3 L4 LR
 generalize hW:(ix g.d d).w=Wh at *
 generalize hle' : (ix g.d d).l=legs at *
 clear hcl hcl' hW hle'
 generalize sg Wh.q=sw at *
 generalize Wh.n=wn at *
 generalize Wh.s=ws at *
 generalize Wh.d=wd at *
 generalize hnl:legs.length=nl at *
 generalize hne:g.e.length=ne at *
 generalize hnd:g.d.length=nd at *
 have b1:=HDC.out (w.alloc (.cells #[.slice ae ne cape,.slice (some ⟨bd,offd,none⟩) nd capd] 30)) ((Below.refl _ _).alloc (Nat.le_refl _) _) 3 (by omega)
 have b1' : (w.alloc (.cells #[.slice ae ne cape,.slice (some ⟨bd,offd,none⟩) nd capd] 30)).cell? ⟨bd,offd+d*4+3,none⟩=some (.slice al nl capl):=b1
 have b2:=HDC.out (w.alloc (.cells #[.slice ae ne cape,.slice (some ⟨bd,offd,none⟩) nd capd] 30)) ((Below.refl _ _).alloc (Nat.le_refl _) _) 0 (by omega)
 rw [Nat.add_zero] at b2
 have b2' : (w.alloc (.cells #[.slice ae ne cape,.slice (some ⟨bd,offd,none⟩) nd capd] 30)).cell? ⟨bd,offd+d*4,none⟩=some (.bool wn):=b2
 have b3:(w.alloc (.cells #[.slice ae ne cape,.slice (some ⟨bd,offd,none⟩) nd capd] 30)).cell? ⟨bd,offd+d*4+1,none⟩=some (.string ws):=HDC.out _ ((Below.refl _ _).alloc (Nat.le_refl _) _) 1 (by omega)
 have b4:(w.alloc (.cells #[.slice ae ne cape,.slice (some ⟨bd,offd,none⟩) nd capd] 30)).cell? ⟨bd,offd+d*4+2,none⟩=some (.string wd):=HDC.out _ ((Below.refl _ _).alloc (Nat.le_refl _) _) 2 (by omega)
 clear b1 b2
 by_cases g1:8<nl
 ·have HR:=Lib.hid (E1.out g1)
  have c1:decide (8<nl)=true:=decide_eq_true g1
  have c1' : decide ((8:Int)<(nl:Int))=true:=by simp;omega
  clear E1 E2 E3 E4 L1 L2 L3 L4 LR
  go_enter Tryz.func80,Tryz.ntmps80
  go_wp2
  go_ret
  exact ⟨ret_int HR.out.symm,(Below.refl _ _).alloc (Nat.le_refl _) _⟩
 ·have c1:decide (8<nl)=false:=decide_eq_false g1
  have c1' : decide ((8:Int)<(nl:Int))=false:=by simp;omega
  have E2:=Lib.hid (E2.out g1)
  have E3:=Lib.hid (fun k=>E3.out k g1)
  have E4:=Lib.hid (E4.out g1)
  clear E1
  go_enter Tryz.func80,Tryz.ntmps80
  go_wp2_with fail
  refine (HSG.out _).mono ?_;rintro x w1 ⟨rfl,hb1⟩
  obtain ⟨J,HB⟩:=boxes1 hb1
  have J:=Lib.hid J
  have HB:=Lib.hid HB
  clear hb1 b1' b2' b3 b4
  by_cases g2:sw<0
  ·have c2:decide (sw<0)=true:=decide_eq_true g2
   have HR:=Lib.hid (E2.out g2)
   clear E2 E3 E4 L1 L2 L3 L4 LR
   go_wp2
   go_ret
   exact ⟨ret_int HR.out.symm,HB.out⟩
  ·have c2:decide (sw<0)=false:=decide_eq_false g2
   have E3:=Lib.hid (fun k=>E3.out k (by omega))
   have E4:=Lib.hid (E4.out (by omega))
   clear E2
   go_wp2_with fail
   generalize hdv:Value.slice (some ⟨bd,offd,none⟩) nd capd=dv at *
   clear hdv
   go_loopw [6] (fun i wr=>∃ k:Nat,i = .int .i64 k∧k≤nl∧Blk wr w.heap.size #[.slice ae ne cape,dv]∧Below w.heap.size w wr∧Hid (∀ i,i<k→CL i=0)) (fun i _=>nl - (intOf i).toNat)
   case atStart=>exact ⟨0,rfl,by omega,J.out,HB.out,fun i hi=>by omega⟩
   case round =>
    obtain ⟨k,rfl,hk,K0,hbk,hsk⟩:=hrel
    have J:=Lib.hid K0
    have HB:=Lib.hid hbk
    clear K0 hbk
    by_cases hlt:k<nl
    ·obtain ⟨bl,offl,rfl,-,-,-⟩:=HL.out.get (by omega)
     have HLC:=Lib.hid (fun W (h:Below w.heap.size w W)=>HL.out.cellAt rfl h (i:=k) (j:=0) hlt (by omega))
     have HLK:=Lib.hid (fun W (h:Below w.heap.size w W)=>HL.out.cellAt rfl h (i:=k) (j:=1) hlt (by omega))
     have HY1:=Lib.hid (fun W (h:Below w.heap.size w W)=>HL.out.cellAt rfl h (i:=0) (j:=0) (by omega) (by omega))
     have HY2:=Lib.hid (fun W (h:Below w.heap.size w W)=>HL.out.cellAt rfl h (i:=0) (j:=1) (by omega) (by omega))
     rw [Nat.add_zero] at HLC
     simp only [Nat.zero_mul,Nat.add_zero] at HY1 HY2
     have hy0 : ∀ (h : ¬ ((ix legs k).e<0∨(ne:Int)≤(ix legs k).e∨(ix legs k).k<0∨((ix g.e (ix legs k).e.toNat).c.length:Int)≤(ix legs k).k)),¬ ((ix legs 0).e<0∨(ne:Int)≤(ix legs 0).e∨(ix legs 0).k<0∨((ix g.e (ix legs 0).e.toNat).c.length:Int)≤(ix legs 0).k):=fun h=>by
      by_cases e:k=0
      ·rw [e] at h;exact h
      ·exact LR.out 0 (hsk.out 0 (by omega))
     have HY0:=Lib.hid hy0
     have HH:=Lib.hid (E3.out k hlt hsk.out)
     have HN:=Lib.hid (fun h=>all_next (p:=fun i=>CL i=0) hsk.out h)
     obtain ⟨d',k',hF,hAT⟩:=HAT.out k hlt
     have HLEG:=Lib.hid (fun w h=>by have:=HLEG.out (ix legs k) w h;rw [hF] at this;exact this)
     unfold legV at HLEG
     simp only at HLEG
     have HAT:=Lib.hid (show hasLg (legsB g.d d k) (ix legs k)=true↔¬ isAt d' k' d k from hAT)
     have i1:(0:Int)≤(k:Int):=by omega
     have i2:(k:Int)<(nl:Int):=by omega
     have L1:=Lib.hid (L1.out k)
     have L2:=Lib.hid (L2.out k)
     have L3:=Lib.hid (L3.out k)
     have L4:=Lib.hid (L4.out k)
     clear hsk LR E3 E4 hy0 hF hAT
     generalize CL k=cl at *
     generalize hasLg (legsB g.d d k) (ix legs k)=hb at *
     generalize ix legs k=X at *
     generalize ix legs 0=Y at *
     obtain ⟨xe,xk⟩:=X
     obtain ⟨ye,yk⟩:=Y
     simp only [Lg.c] at HLC HLK HY1 HY2 HY0 HLEG L1 L2 L3 L4
     have F1:=Lib.hid (fun h=>(HH.out (by rw [L1.out h];omega)).trans (L1.out h))
     have F2:=Lib.hid (fun h h2=>(HH.out (by rw [L2.out h h2];omega)).trans (L2.out h h2))
     have F3:=Lib.hid (fun h h2 h3=>(HH.out (by rw [L3.out h h2 h3];omega)).trans (L3.out h h2 h3))
     have F4:=Lib.hid (fun h h2 h3=>HN.out (L4.out h h2 h3))
     clear HH HN L1 L2 L3 L4
     by_cases g1:xe<0
     ·have dg1:decide (xe<0)=true:=decide_eq_true g1
      have HR:=Lib.hid (F1.out (.inl g1))
      clear F1 F2 F3 F4 HY0
      have m0:=cell_regrown (show wr.cell? ⟨w.heap.size,0,none⟩=some (Value.slice ae ne cape) from J.out.cell 0)
      have m1:=cell_regrown (show wr.cell? ⟨w.heap.size,1,none⟩=some dv from J.out.cell 1)
      have m2:=cell_regrown (show wr.cell? ⟨bl,offl+k*2,none⟩=some (Value.int .i64 (xe)) from HLC.out wr HB.out)
      have m3:=cell_regrown (show wr.cell? ⟨bl,offl+k*2+1,none⟩=some (Value.int .i64 (xk)) from HLK.out wr HB.out)
      go_wp2_with fail
      refine wp_region_qb (by kernel_rfl) (by kernel_rfl) ?_
      repeat (first|go_big_quiet_skip|(refine wpQuiet_step (fun K hK=>?_);go_simp;(try simp (disch:=omega) only [ar9]);(first|(refine hK _ ?_;clear hK K)|(apply Exists.intro;refine ⟨fun _=>?_,hK _ ?_⟩;(fail);clear hK K))))
      clear m0 m1 m2 m3
      refine wpQuiet_nil ?_
      intro W1 hb9
      have J:=Lib.hid (J.out.on hb9)
      have HB:=Lib.hid (chain HB.out hb9 (Nat.le_refl _))
      clear hb9
      go_wp2
      go_ret
      exact ⟨ret_int HR.out.symm,HB.out⟩
     ·have dg1:decide (xe<0)=false:=decide_eq_false g1
      by_cases g2:(ne:Int)≤xe
      ·have dg2:decide ((ne:Int)≤xe)=true:=decide_eq_true g2
       have HR:=Lib.hid (F1.out (.inr (.inl g2)))
       clear F1 F2 F3 F4 HY0
       have m0:=cell_regrown (show wr.cell? ⟨w.heap.size,0,none⟩=some (Value.slice ae ne cape) from J.out.cell 0)
       have m1:=cell_regrown (show wr.cell? ⟨w.heap.size,1,none⟩=some dv from J.out.cell 1)
       have m2:=cell_regrown (show wr.cell? ⟨bl,offl+k*2,none⟩=some (Value.int .i64 (xe)) from HLC.out wr HB.out)
       have m3:=cell_regrown (show wr.cell? ⟨bl,offl+k*2+1,none⟩=some (Value.int .i64 (xk)) from HLK.out wr HB.out)
       go_wp2_with fail
       refine wp_region_qb (by kernel_rfl) (by kernel_rfl) ?_
       repeat (first|go_big_quiet_skip|(refine wpQuiet_step (fun K hK=>?_);go_simp;(try simp (disch:=omega) only [ar9]);(first|(refine hK _ ?_;clear hK K)|(apply Exists.intro;refine ⟨fun _=>?_,hK _ ?_⟩;(fail);clear hK K))))
       clear m0 m1 m2 m3
       refine wpQuiet_nil ?_
       intro W1 hb9
       have J:=Lib.hid (J.out.on hb9)
       have HB:=Lib.hid (chain HB.out hb9 (Nat.le_refl _))
       clear hb9
       go_wp2
       go_ret
       exact ⟨ret_int HR.out.symm,HB.out⟩
      ·have dg2:decide ((ne:Int)≤xe)=false:=decide_eq_false g2
       obtain ⟨i,rfl⟩ : ∃ i:Nat,xe=(i:Int):=Int.eq_ofNat_of_zero_le (by omega)
       have hin:i<ne:=by omega
       obtain ⟨be,offe,rfl,-,-,-⟩:=HSE.out.get (by omega)
       obtain ⟨cv,av,hge,hRC,-⟩:=HQE.out i hin
       obtain ⟨ac,capc,rfl,-,-⟩:=hRC.plain.form
       have HEC:=Lib.hid (fun W (h:Below w.heap.size w W)=>HSE.out.cellAt rfl h (i:=i) (j:=3) hin (by omega))
       rw [hge] at HEC
       have hlc9:=HLC9.out i hin
       clear hge hRC
       generalize hnc:(ix g.e i).c.length=nc at *
       by_cases g3:xk<0
       ·have dg3:decide (xk<0)=true:=decide_eq_true g3
        have HR:=Lib.hid (F1.out (.inr (.inr (.inl g3))))
        clear F1 F2 F3 F4 HY0
        have m0:=cell_regrown (show wr.cell? ⟨w.heap.size,0,none⟩=some (Value.slice (some ⟨be,offe,none⟩) ne cape) from J.out.cell 0)
        have m1:=cell_regrown (show wr.cell? ⟨w.heap.size,1,none⟩=some dv from J.out.cell 1)
        have m2:=cell_regrown (show wr.cell? ⟨bl,offl+k*2,none⟩=some (Value.int .i64 (i:Int)) from HLC.out wr HB.out)
        have m3:=cell_regrown (show wr.cell? ⟨bl,offl+k*2+1,none⟩=some (Value.int .i64 (xk)) from HLK.out wr HB.out)
        have m4:=cell_regrown (show wr.cell? ⟨be,offe+i*5+3,none⟩=some (Value.slice ac nc capc) from HEC.out wr HB.out)
        go_wp2_with fail
        refine wp_region_qb (by kernel_rfl) (by kernel_rfl) ?_
        repeat (first|go_big_quiet_skip|(refine wpQuiet_step (fun K hK=>?_);go_simp;(try simp (disch:=omega) only [ar9]);(first|(refine hK _ ?_;clear hK K)|(apply Exists.intro;refine ⟨fun _=>?_,hK _ ?_⟩;(fail);clear hK K))))
        clear m0 m1 m2 m3 m4
        refine wpQuiet_nil ?_
        intro W1 hb9
        have J:=Lib.hid (J.out.on hb9)
        have HB:=Lib.hid (chain HB.out hb9 (Nat.le_refl _))
        clear hb9
        go_wp2
        go_ret
        exact ⟨ret_int HR.out.symm,HB.out⟩
       ·have dg3:decide (xk<0)=false:=decide_eq_false g3
        by_cases g4:(nc:Int)≤xk
        ·have dg4:decide ((nc:Int)≤xk)=true:=decide_eq_true g4
         have HR:=Lib.hid (F1.out (.inr (.inr (.inr (by rw [Int.toNat_natCast,hnc];exact g4)))))
         clear F1 F2 F3 F4 HY0
         have m0:=cell_regrown (show wr.cell? ⟨w.heap.size,0,none⟩=some (Value.slice (some ⟨be,offe,none⟩) ne cape) from J.out.cell 0)
         have m1:=cell_regrown (show wr.cell? ⟨w.heap.size,1,none⟩=some dv from J.out.cell 1)
         have m2:=cell_regrown (show wr.cell? ⟨bl,offl+k*2,none⟩=some (Value.int .i64 (i:Int)) from HLC.out wr HB.out)
         have m3:=cell_regrown (show wr.cell? ⟨bl,offl+k*2+1,none⟩=some (Value.int .i64 (xk)) from HLK.out wr HB.out)
         have m4:=cell_regrown (show wr.cell? ⟨be,offe+i*5+3,none⟩=some (Value.slice ac nc capc) from HEC.out wr HB.out)
         go_wp2_with fail
         refine wp_region_qb (by kernel_rfl) (by kernel_rfl) ?_
         repeat (first|go_big_quiet_skip|(refine wpQuiet_step (fun K hK=>?_);go_simp;(try simp (disch:=omega) only [ar9]);(first|(refine hK _ ?_;clear hK K)|(apply Exists.intro;refine ⟨fun _=>?_,hK _ ?_⟩;(fail);clear hK K))))
         clear m0 m1 m2 m3 m4
         refine wpQuiet_nil ?_
         intro W1 hb9
         have J:=Lib.hid (J.out.on hb9)
         have HB:=Lib.hid (chain HB.out hb9 (Nat.le_refl _))
         clear hb9
         go_wp2
         go_ret
         exact ⟨ret_int HR.out.symm,HB.out⟩
        ·have dg4:decide ((nc:Int)≤xk)=false:=decide_eq_false g4
         obtain ⟨j,rfl⟩ : ∃ j:Nat,xk=(j:Int):=Int.eq_ofNat_of_zero_le (by omega)
         have hjn:j<nc:=by omega
         have HNR:=Lib.hid (show ¬ ((i:Int)<0∨(ne:Int)≤(i:Int)∨(j:Int)<0∨((ix g.e (i:Int).toNat).c.length:Int)≤(j:Int)) by rw [Int.toNat_natCast,hnc];omega)
         have hy:=HY0.out HNR.out
         obtain ⟨i0,rfl⟩ : ∃ i:Nat,ye=(i:Int):=Int.eq_ofNat_of_zero_le (by omega)
         obtain ⟨j0,rfl⟩ : ∃ i:Nat,yk=(i:Int):=Int.eq_ofNat_of_zero_le (by omega)
         rw [Int.toNat_natCast] at hy
         have HCL1:=Lib.hid (fun w h=>HCLM.out i j w h hin (by rw [hnc];exact hjn))
         have HCL2:=Lib.hid (fun w h=>HCLM.out i0 j0 w h (by omega) (by omega))
         have hh1:holdL g.e ⟨(i:Int),(j:Int)⟩=(ix (ix g.e i).c j).h:=by unfold holdL;simp only [Int.toNat_natCast]
         have hh2:holdL g.e ⟨(i0:Int),(j0:Int)⟩=(ix (ix g.e i0).c j0).h:=by unfold holdL;simp only [Int.toNat_natCast]
         rw [hh1,hh2] at F3 F4
         have i3:(0:Int)≤(i:Int):=by omega
         have i4:(i:Int)<(ne:Int):=by omega
         have i5:decide ((i:Int)<0)=false:=decide_eq_false (by omega)
         have i5' : decide ((j:Int)<0)=false:=decide_eq_false (by omega)
         have i6:decide ((ne:Int)≤(i:Int))=false:=by simp;omega
         have i6' : decide (ne≤i)=false:=by simp;omega
         have i7:decide ((nc:Int)≤(j:Int))=false:=by simp;omega
         have i7' : decide (nc≤j)=false:=by simp;omega
         have i8:(0:Int)<(nl:Int):=by omega
         have i9:0<nl:=by omega
         clear HCLM hh1 hh2 hy
         generalize (ix (ix g.e i).c j).h=h1 at *
         generalize (ix (ix g.e i0).c j0).h=h2 at *
         have m0:=cell_regrown (show wr.cell? ⟨w.heap.size,0,none⟩=some (Value.slice (some ⟨be,offe,none⟩) ne cape) from J.out.cell 0)
         have m1:=cell_regrown (show wr.cell? ⟨w.heap.size,1,none⟩=some dv from J.out.cell 1)
         have m2:=cell_regrown (show wr.cell? ⟨bl,offl+k*2,none⟩=some (Value.int .i64 (i:Int)) from HLC.out wr HB.out)
         have m3:=cell_regrown (show wr.cell? ⟨bl,offl+k*2+1,none⟩=some (Value.int .i64 (j:Int)) from HLK.out wr HB.out)
         have m4:=cell_regrown (show wr.cell? ⟨be,offe+i*5+3,none⟩=some (Value.slice ac nc capc) from HEC.out wr HB.out)
         go_wp2_with fail
         refine wp_region_qb (by kernel_rfl) (by kernel_rfl) ?_
         repeat (first|go_big_quiet_skip|(refine wpQuiet_step (fun K hK=>?_);go_simp;(try simp (disch:=omega) only [ar9]);(first|(refine hK _ ?_;clear hK K)|(apply Exists.intro;refine ⟨fun _=>?_,hK _ ?_⟩;(fail);clear hK K))))
         clear m0 m1 m2 m3 m4
         refine wpQuiet_nil ?_
         intro W1 hb9
         have J:=Lib.hid (J.out.on hb9)
         have HB:=Lib.hid (chain HB.out hb9 (Nat.le_refl _))
         clear hb9
         have HLG:=Lib.hid (fun d9 os9=>HLEG.out (Sort.grow (redrawn W1 d9) os9) (HDB.out.on (HB.out.trans (show Below w.heap.size W1 _ from (below_regrown W1 d9 os9).mono HB.out.size))))
         have m0:=cell_regrown (show W1.cell? ⟨w.heap.size,0,none⟩=some (Value.slice (some ⟨be,offe,none⟩) ne cape) from J.out.cell 0)
         have m1:=cell_regrown (show W1.cell? ⟨w.heap.size,1,none⟩=some dv from J.out.cell 1)
         have m2:=cell_regrown (show W1.cell? ⟨bl,offl+k*2,none⟩=some (Value.int .i64 (i:Int)) from HLC.out W1 HB.out)
         have m3:=cell_regrown (show W1.cell? ⟨bl,offl+k*2+1,none⟩=some (Value.int .i64 (j:Int)) from HLK.out W1 HB.out)
         have m4:=cell_regrown (show W1.cell? ⟨be,offe+i*5+3,none⟩=some (Value.slice ac nc capc) from HEC.out W1 HB.out)
         go_wp2_with fail
         refine wp_region_qb (by kernel_rfl) (by kernel_rfl) ?_
         repeat (first|go_big_quiet_skip|(refine wpQuiet_step (fun K hK=>?_);go_simp;(try simp (disch:=omega) only [ar9]);(first|(refine hK _ ?_;clear hK K)|(apply Exists.intro;refine ⟨fun _=>?_,hK _ ?_⟩;(first|with_reducible exact Calls.later (HLG.out _ _));clear hK K))))
         clear m0 m1 m2 m3 m4
         refine wpQuiet_nil ?_
         intro W2 hb9
         have J:=Lib.hid (J.out.on hb9)
         have HB:=Lib.hid (chain HB.out hb9 (Nat.le_refl _))
         clear hb9
         by_cases ga:d=d'
         ·subst ga
          by_cases gb:k=k'
          ·subst gb
           have hfd : ∀ (x0 x1 x2 x3 x4:Value) (w:World),(Instr.field 79 (.agg #[x0,x1,x2,x3,x4]) 0).run Tryz.prog w = .ok x0 w:=fun _ _ _ _ _ _=>by kernel_rfl
           have HC1:=Lib.hid (fun d9 os9=>HCL1.out (Sort.grow (redrawn W2 d9) os9) (HGR.out.on (HB.out.trans (show Below w.heap.size W2 _ from (below_regrown W2 d9 os9).mono HB.out.size))))
           have HC2:=Lib.hid (fun d9 os9=>HCL2.out (Sort.grow (redrawn W2 d9) os9) (HGR.out.on (HB.out.trans (show Below w.heap.size W2 _ from (below_regrown W2 d9 os9).mono HB.out.size))))
           have m0:=cell_regrown (show W2.cell? ⟨w.heap.size,0,none⟩=some (Value.slice (some ⟨be,offe,none⟩) ne cape) from J.out.cell 0)
           have m1:=cell_regrown (show W2.cell? ⟨w.heap.size,1,none⟩=some dv from J.out.cell 1)
           have m2:=cell_regrown (show W2.cell? ⟨bl,offl+k*2,none⟩=some (Value.int .i64 (i:Int)) from HLC.out W2 HB.out)
           have m3:=cell_regrown (show W2.cell? ⟨bl,offl+k*2+1,none⟩=some (Value.int .i64 (j:Int)) from HLK.out W2 HB.out)
           have m4:=cell_regrown (show W2.cell? ⟨be,offe+i*5+3,none⟩=some (Value.slice ac nc capc) from HEC.out W2 HB.out)
           have m5:=cell_regrown (show W2.cell? ⟨bl,offl,none⟩=some (Value.int .i64 (i0:Int)) from HY1.out W2 HB.out)
           have m6:=cell_regrown (show W2.cell? ⟨bl,offl+1,none⟩=some (Value.int .i64 (j0:Int)) from HY2.out W2 HB.out)
           go_wp2_with fail
           refine wp_region_qb (by kernel_rfl) (by kernel_rfl) ?_
           repeat (first|go_big_quiet_skip|(refine wpQuiet_step (fun K hK=>?_);go_simp;(try simp (disch:=omega) only [ar9]);(first|(refine hK _ ?_;clear hK K)|(apply Exists.intro;refine ⟨fun _=>?_,hK _ ?_⟩;(first|with_reducible exact Calls.later (HC1.out _ _)|with_reducible exact Calls.later (HC2.out _ _));clear hK K))))
           clear m0 m1 m2 m3 m4 m5 m6
           refine wpQuiet_nil ?_
           intro W3 hb9
           have J:=Lib.hid (J.out.on hb9)
           have HB:=Lib.hid (chain HB.out hb9 (Nat.le_refl _))
           clear hb9
           by_cases gh:h1=h2
           ·subst gh
            have HX:=Lib.hid (F4.out HNR.out (fun h=>HAT.out.mp h ⟨rfl,rfl⟩) (by first|rfl|trivial))
            clear F1 F2 F3 F4 HY0
            go_wp2
            go_roundw
            case rel=>exact ⟨k+1,by go_num,by omega,J.out,HB.out,HX.out⟩
            case measure=>simp [intOf];omega
           ·have gh1:(h1 != h2)=true:=by simp [gh]
            have HR:=Lib.hid (F3.out HNR.out (fun h=>HAT.out.mp h ⟨rfl,rfl⟩) gh)
            clear F1 F2 F3 F4 HY0
            go_wp2
            go_ret
            exact ⟨ret_int HR.out.symm,HB.out⟩
          ·have gb1:((k' : Int) != (k:Int))=true:=by simp;omega
           have HR:=Lib.hid (F2.out HNR.out (HAT.out.mpr (fun h=>gb h.2.symm)))
           clear F1 F2 F3 F4 HY0
           go_wp2
           go_ret
           exact ⟨ret_int HR.out.symm,HB.out⟩
         ·have ga1:((d' : Int) != (d:Int))=true:=by simp;omega
          have HR:=Lib.hid (F2.out HNR.out (HAT.out.mpr (fun h=>ga h.1.symm)))
          clear F1 F2 F3 F4 HY0
          go_wp2
          go_ret
          exact ⟨ret_int HR.out.symm,HB.out⟩
    ·obtain rfl:k=nl:=by omega
     have HR:=Lib.hid (E4.out hsk.out)
     have hnl:decide ((k:Int)<(k:Int))=false:=by simp
     go_wp2
     go_ret
     exact ⟨ret_int HR.out.symm,HB.out⟩
end Go.Proofs.Ins
