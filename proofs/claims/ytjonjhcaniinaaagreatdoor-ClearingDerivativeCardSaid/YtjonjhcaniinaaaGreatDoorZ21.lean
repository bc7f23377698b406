/- The members of an agreement: plain. -/
import Derived.Test.YtjonjhcaniinaaaGreatDoorZ20
import Derived.Deep.Upon
import Derived.Lib.AppendZerosOnto
import Derived.Lib.AppendZeros
import Derived.Shelf.Sort.Plain
import Derived.Shelf.Slices.CompactI
import Derived.Shelf.Slices.In.SortNone
import Derived.Lib.SlicesCompact
set_option linter.all false
set_option maxRecDepth 100000
set_option maxHeartbeats 8000000
namespace Go.Proofs.Ins
open Go.RowKit
theorem bY.c5 {w:World} {b:Nat} {v0 v1 v2 v3 v4:Value} (h:bY w b #[v0,v1,v2,v3,v4]) :
  w.cell? ⟨b,0,none⟩=some v0∧w.cell? ⟨b,1,none⟩=some v1∧w.cell? ⟨b,2,none⟩=some v2∧w.cell? ⟨b,3,none⟩=some v3∧w.cell? ⟨b,4,none⟩=some v4 :=
 ⟨h.cell 0,h.cell 1,h.cell 2,h.cell 3,h.cell 4⟩
def qN.v (e:qN) (cv av:Value):Value:=.agg #[.bool e.m.n,.string e.m.s,.string e.m.d,cv,av]
theorem Xf {n:Nat} {tk:Int→Bool} {x:Int} {b:Bool} {r:R3} (h:x < -1):rQ n tk ⟨x,b,r⟩=1:=by unfold rQ;rw [if_pos (.inl h)]
theorem Xg {n:Nat} {tk:Int→Bool} {x:Int} {b:Bool} {r:R3} (h:(n:Int)≤x):rQ n tk ⟨x,b,r⟩=1:=by unfold rQ;rw [if_pos (.inr h)]
theorem aeH {n:Nat} {tk:Int→Bool} {x:Int} {r:R3} (h1 : ¬ x < -1) (h2 : ¬ (n:Int)≤x) (h:x = -1):rQ n tk ⟨x,false,r⟩=21:=by unfold rQ;rw [if_neg (by simp only;omega),if_pos ⟨h,rfl⟩]
theorem aeI {n:Nat} {tk:Int→Bool} {x:Int} {r:R3} (h1 : ¬ x < -1) (h2 : ¬ (n:Int)≤x) (h:sg r.q<0):rQ n tk ⟨x,true,r⟩=7:=by unfold rQ;rw [if_neg (by simp only;omega),if_neg kc,if_pos ⟨rfl,h⟩]
theorem aeJ {n:Nat} {tk:Int→Bool} {x:Int} {b:Bool} {r:R3} (h1 : ¬ x < -1) (h2 : ¬ (n:Int)≤x) (h3 : ¬ (b=true∧sg r.q<0)) (h:x≠-1) (h5:tk x=true):rQ n tk ⟨x,b,r⟩=20:=by
 unfold rQ;rw [if_neg (by simp only;omega),if_neg (fun h6=>h h6.1),if_neg h3,if_pos ⟨h,h5⟩]
theorem amM {n:Nat} {tk:Int→Bool} {x:Int} {b:Bool} {r:R3} (h1 : ¬ x < -1) (h2 : ¬ (n:Int)≤x) (h4 : ¬ (x = -1∧b=false)) (h3 : ¬ (b=true∧sg r.q<0)) (h5:x = -1∨tk x=false):rQ n tk ⟨x,b,r⟩=0:=by
 unfold rQ;rw [if_neg (by simp only;omega),if_neg h4,if_neg h3,if_neg]
 rintro ⟨h6,h7⟩
 rcases h5 with h5|h5
 ·exact h6 h5
 ·rw [h5] at h7;cases h7
theorem EU {n:Nat} {tk:Int→Bool} {a:fK} (h:yc a=true):uD n tk a=2:=by unfold uD;rw [if_pos h]
theorem aeK {h r:Int} {a:R3} (h1:h < -1):oJ ⟨h,r,a⟩=19:=by unfold oJ;rw [if_pos (.inl h1)]
theorem aeL {h r:Int} {a:R3} (h1:8≤h):oJ ⟨h,r,a⟩=19:=by unfold oJ;rw [if_pos (.inr h1)]
theorem aeM {h r:Int} {a:R3} (h1 : ¬ h < -1) (h2 : ¬ 8≤h) (h3:r<0):oJ ⟨h,r,a⟩=1:=by unfold oJ;rw [if_neg (by simp only;omega),if_pos (.inl h3)]
theorem aeN {h r:Int} {a:R3} (h1 : ¬ h < -1) (h2 : ¬ 8≤h) (h3:7<r):oJ ⟨h,r,a⟩=1:=by unfold oJ;rw [if_neg (by simp only;omega),if_pos (.inr h3)]
theorem aeO {h r:Int} {a:R3} (h1 : ¬ h < -1) (h2 : ¬ 8≤h) (h3 : ¬ r<0) (h4 : ¬ 7<r) (h5:sg a.q<0):oJ ⟨h,r,a⟩=7:=by unfold oJ;rw [if_neg (by simp only;omega),if_neg (by simp only;omega),if_pos h5]
theorem amN {h r:Int} {a:R3} (h1 : ¬ h < -1) (h2 : ¬ 8≤h) (h3 : ¬ r<0) (h4 : ¬ 7<r) (h5 : ¬ sg a.q<0):oJ ⟨h,r,a⟩=0:=by unfold oJ;rw [if_neg (by simp only;omega),if_neg (by simp only;omega),if_neg h5]
theorem amO {e:qN} (h:24<e.c.length):lH e=2:=by unfold lH;rw [if_pos (.inl h)]
theorem amP {e:qN} (h:12<e.a.length):lH e=2:=by unfold lH;rw [if_pos (.inr h)]
theorem amQ {e:qN} (h : ¬ 24<e.c.length) (h2 : ¬ 12<e.a.length) (h3:sg e.m.q<0):lH e=7:=by unfold lH;rw [if_neg jb,if_pos h3]
theorem amR {e:qN} {i:Nat} (h : ¬ 24<e.c.length) (h2 : ¬ 12<e.a.length) (h3 : ¬ sg e.m.q<0) (hi:i<e.c.length) (h4 : ∀ k,k<i→oJ (ix e.c k)=0) (h5:oJ (ix e.c i)≠0):lH e=oJ (ix e.c i):=by
 have:=rP (f:=fun i=>oJ (ix e.c i)) h4 h5 hi
 unfold lH;rw [if_neg jb,if_neg h3,if_pos (by rw [this];exact h5),this]
theorem amS {e:qN} {i:Nat} (h : ¬ 24<e.c.length) (h2 : ¬ 12<e.a.length) (h3 : ¬ sg e.m.q<0) (h4 : ∀ k,k<e.c.length→oJ (ix e.c k)=0) (hi:i<e.a.length) (h5 : ∀ k,k<i→uD e.c.length (lV e.a k) (ix e.a k)=0) (h6:uD e.c.length (lV e.a i) (ix e.a i)≠0):lH e=uD e.c.length (lV e.a i) (ix e.a i):=by
 unfold lH;rw [if_neg jb,if_neg h3,if_neg (by rw [eF (f:=fun i=>oJ (ix e.c i)) h4];simp),rP (f:=fun k=>uD e.c.length (lV e.a k) (ix e.a k)) h5 h6 hi]
theorem amT {e:qN} (h : ¬ 24<e.c.length) (h2 : ¬ 12<e.a.length) (h3 : ¬ sg e.m.q<0) (h4 : ∀ k,k<e.c.length→oJ (ix e.c k)=0) (h5 : ∀ k,k<e.a.length→uD e.c.length (lV e.a k) (ix e.a k)=0):lH e=0:=by
 unfold lH;rw [if_neg jb,if_neg h3,if_neg (by rw [eF (f:=fun i=>oJ (ix e.c i)) h4];simp),eF (f:=fun k=>uD e.c.length (lV e.a k) (ix e.a k)) h5]
def Xh (y x:Lg):Bool:=y.e == x.e && y.k == x.k

theorem aeP {g:gK} {d k:Nat} (h:(ix (ix g.d d).l k).e<0∨(g.e.length:Int)≤(ix (ix g.d d).l k).e∨(ix (ix g.d d).l k).k<0∨((ix g.e (ix (ix g.d d).l k).e.toNat).c.length:Int)≤(ix (ix g.d d).l k).k):nM g d k=1:=by
 unfold nM;simp only;rw [if_pos h]
theorem amU {g:gK} {d k:Nat} (h : ¬ ((ix (ix g.d d).l k).e<0∨(g.e.length:Int)≤(ix (ix g.d d).l k).e∨(ix (ix g.d d).l k).k<0∨((ix g.e (ix (ix g.d d).l k).e.toNat).c.length:Int)≤(ix (ix g.d d).l k).k)) (h2:sZ (iM g.d d k) (ix (ix g.d d).l k)=true):nM g d k=20:=by
 unfold nM;simp only;rw [if_neg h,if_pos h2]
theorem amV {g:gK} {d k:Nat} (h : ¬ ((ix (ix g.d d).l k).e<0∨(g.e.length:Int)≤(ix (ix g.d d).l k).e∨(ix (ix g.d d).l k).k<0∨((ix g.e (ix (ix g.d d).l k).e.toNat).c.length:Int)≤(ix (ix g.d d).l k).k)) (h2 : ¬ sZ (iM g.d d k) (ix (ix g.d d).l k)=true) (h3:holdL g.e (ix (ix g.d d).l k)≠holdL g.e (ix (ix g.d d).l 0)):nM g d k=19:=by
 unfold nM;simp only;rw [if_neg h,if_neg h2,if_pos h3]
theorem amW {g:gK} {d k:Nat} (h : ¬ ((ix (ix g.d d).l k).e<0∨(g.e.length:Int)≤(ix (ix g.d d).l k).e∨(ix (ix g.d d).l k).k<0∨((ix g.e (ix (ix g.d d).l k).e.toNat).c.length:Int)≤(ix (ix g.d d).l k).k)) (h2 : ¬ sZ (iM g.d d k) (ix (ix g.d d).l k)=true) (h3:holdL g.e (ix (ix g.d d).l k)=holdL g.e (ix (ix g.d d).l 0)):nM g d k=0:=by
 unfold nM;simp only;rw [if_neg h,if_neg h2,if_neg (by simp [h3])]
theorem Xi {g:gK} {d k:Nat} (h:nM g d k=0) : ¬ ((ix (ix g.d d).l k).e<0∨(g.e.length:Int)≤(ix (ix g.d d).l k).e∨(ix (ix g.d d).l k).k<0∨((ix g.e (ix (ix g.d d).l k).e.toNat).c.length:Int)≤(ix (ix g.d d).l k).k):=fun h2=>by
 rw [aeP h2] at h;cases h
theorem aeQ {g:gK} {d:Nat} (h:8<(ix g.d d).l.length):vM g d=2:=by unfold vM;rw [if_pos h]
theorem amX {g:gK} {d:Nat} (h : ¬ 8<(ix g.d d).l.length) (h2:sg (ix g.d d).w.q<0):vM g d=7:=by unfold vM;rw [if_neg h,if_pos h2]
theorem amY {g:gK} {d k:Nat} (h : ¬ 8<(ix g.d d).l.length) (h2 : ¬ sg (ix g.d d).w.q<0) (hk:k<(ix g.d d).l.length) (h3 : ∀ i,i<k→nM g d i=0) (h4:nM g d k≠0):vM g d=nM g d k:=by
 unfold vM;rw [if_neg h,if_neg h2,rP h3 h4 hk]
theorem amZ {g:gK} {d:Nat} (h : ¬ 8<(ix g.d d).l.length) (h2 : ¬ sg (ix g.d d).w.q<0) (h3 : ∀ i,i<(ix g.d d).l.length→nM g d i=0):vM g d=0:=by
 unfold vM;rw [if_neg h,if_neg h2,eF h3]
theorem am1 {g:gK} (h:8<g.e.length):qO g=2:=by unfold qO;rw [if_pos (.inl h)]
theorem am2 {g:gK} (h:16<g.d.length):qO g=2:=by unfold qO;rw [if_pos (.inr h)]
theorem am3 {g:gK} {i:Nat} (h : ¬ 8<g.e.length) (h2 : ¬ 16<g.d.length) (hi:i<g.e.length) (h3 : ∀ k,k<i→lH (ix g.e k)=0) (h4:lH (ix g.e i)≠0):qO g=lH (ix g.e i):=by
 have:=rP (f:=fun i=>lH (ix g.e i)) h3 h4 hi
 unfold qO;rw [if_neg jb,if_pos (by rw [this];exact h4),this]
theorem am4 {g:gK} {i k:Nat} (h : ¬ 8<g.e.length) (h2 : ¬ 16<g.d.length) (h3 : ∀ k,k<g.e.length→lH (ix g.e k)=0) (hi:i<g.e.length) (h4 : ∀ j,j<i→mD (mF g j) (ix g.e j).c.length=0) (hk:k<(ix g.e i).c.length) (h5 : ∀ j,j<k→mF g i j=0) (h6:mF g i k≠0):qO g=mF g i k:=by
 have e1:=rP (f:=mF g i) h5 h6 hk
 have e2:=rP (f:=fun i=>mD (mF g i) (ix g.e i).c.length) h4 (by rw [e1];exact h6) hi
 unfold qO;rw [if_neg jb,if_neg (by rw [eF (f:=fun i=>lH (ix g.e i)) h3];simp),if_pos (by rw [e2,e1];exact h6),e2,e1]
theorem am5 {g:gK} {d:Nat} (h : ¬ 8<g.e.length) (h2 : ¬ 16<g.d.length) (h3 : ∀ k,k<g.e.length→lH (ix g.e k)=0) (h4 : ∀ j,j<g.e.length→mD (mF g j) (ix g.e j).c.length=0) (hd:d<g.d.length) (h5 : ∀ k,k<d→vM g k=0) (h6:vM g d≠0):qO g=vM g d:=by
 unfold qO;rw [if_neg jb,if_neg (by rw [eF (f:=fun i=>lH (ix g.e i)) h3];simp),if_neg (by rw [eF (f:=fun i=>mD (mF g i) (ix g.e i).c.length) h4];simp),rP h5 h6 hd]
theorem am6 {g:gK} (h : ¬ 8<g.e.length) (h2 : ¬ 16<g.d.length) (h3 : ∀ k,k<g.e.length→lH (ix g.e k)=0) (h4 : ∀ j,j<g.e.length→mD (mF g j) (ix g.e j).c.length=0) (h5 : ∀ k,k<g.d.length→vM g k=0):qO g=0:=by
 unfold qO;rw [if_neg jb,if_neg (by rw [eF (f:=fun i=>lH (ix g.e i)) h3];simp),if_neg (by rw [eF (f:=fun i=>mD (mF g i) (ix g.e i).c.length) h4];simp),eF h5]
theorem am7 {g:gK} {i k:Nat} (h:(g.e.length:Int)≤(ix (ix g.e i).c k).h):mF g i k=19:=by unfold mF;rw [if_pos (.inl h)]
theorem am8 {g:gK} {i k:Nat} (h:(ix (ix g.e i).c k).h=(i:Int)):mF g i k=19:=by unfold mF;rw [if_pos (.inr h)]
theorem am9 {g:gK} {i k:Nat} (h : ¬ (g.e.length:Int)≤(ix (ix g.e i).c k).h) (h2 : ¬ (ix (ix g.e i).c k).h=(i:Int)):mF g i k=0:=by unfold mF;rw [if_neg (by rintro (h3|h3);exact h h3;exact h2 h3)]
def EW (t:ET):Bool:=decide (24<t.length)
theorem MF (a:Option Addr) (n cap:Nat) (w:World):Calls Tryz.prog 124 #[.slice a n cap] w fun e w'=>e = .returned (.bool (decide (24<n)))∧Below w.heap.size w w':=by
 by_cases h:24<n
 ·have h1:decide (24<n)=true:=decide_eq_true h
  have h2:decide ((24:Int)<(n:Int))=true:=by simp;omega
  go_enter Tryz.func124,Tryz.ntmps124
  go_wp2
  go_ret
  exact ⟨BX (by rw [h1]),Below.refl _ _⟩
 ·have h1:decide (24<n)=false:=decide_eq_false h
  have h2:decide ((24:Int)<(n:Int))=false:=by simp;omega
  go_enter Tryz.func124,Tryz.ntmps124
  go_wp2
  go_ret
  exact ⟨BX (by rw [h1]),Below.refl _ _⟩
theorem Xj (p:Nat→Prop) (v:Value) (a:fK) (w:World) (hA:kT w p v a) (la:a.length≤140737488351232) :
  Calls Tryz.prog 158 #[v,.func (.func 124) #[] #[]] w (ap5 w (Qe (fun i=>EW (ix a i)) a.length)):=by
 obtain ⟨G,hS,hQ⟩:=hA
 obtain ⟨aa,cap,rfl,-,-⟩:=hS.form
 have HS:=jx hS
 have HQ:=jx hQ
 have HE:=jx (fun h2=>JW (n:=a.length) (p:=fun i=>EW (ix a i)) h2)
 have HX:=jx (fun i hi h=>NZ (n:=a.length) (i:=i) (p:=fun i=>EW (ix a i)) hi h)
 clear hS hQ
 generalize hn:a.length=n at *
 go_enter Tryz.func158,Tryz.ntmps158
 go_wp2
 go_loopw [8] (fun i wr=>∃ k:Nat,i = .int .i64 k∧k≤n∧Hid (∀ i,i<k→EW (ix a i)=false)∧Below w.heap.size w wr) (fun i _=>n - (intOf i).toNat)
 case atStart=>exact ⟨0,rfl,jb,fun i hi=>jb,Below.refl _ _⟩
 case round =>
  obtain ⟨k,rfl,hk,hs,hbel⟩:=hrel
  by_cases hlt:k<n
  ·obtain ⟨b,off,rfl,-,-,-⟩:=HS.out.get jb
   have c0:=HS.out.cellAt rfl hbel (i:=k) (j:=0) hlt jb
   obtain ⟨v2,hG,hR⟩:=HQ.out k hlt
   obtain ⟨a2,cap2,rfl,-,-⟩:=hR.plain.form
   rw [hG,Nat.mul_one,Nat.add_zero] at c0
   have c1:wr.cell? ⟨b,off+k,none⟩=some (.slice a2 (ix a k).length cap2):=c0
   have HC:=jx (fun w=>MF a2 (ix a k).length cap2 w)
   have HB:=jx hbel
   have hsz:=hbel.size
   have HXK:=jx (HX.out k hlt)
   have HSN:=jx (fun h=>nZ (p:=fun i=>EW (ix a i)=false) hs.out h)
   have e1:EW (ix a k)=decide (24<(ix a k).length):=rfl
   rw [e1] at HXK HSN
   generalize decide (24<(ix a k).length)=sb at *
   have HK:=jx (show decide (0≤(k:Int))=true by simp)
   have i1:(0:Int)≤(k:Int):=jb
   have i2:(k:Int)<(n:Int):=jb
   clear c0 hG hR hbel e1 hs
   go_wp2_with fail
   refine (HC.out _).mono ?_;rintro e w3 ⟨rfl,hb3⟩
   have HB3:=jx (chain HB.out hb3 jp)
   clear hb3
   cases sb
   ·go_wp2
    go_roundw
    case rel=>exact ⟨k+1,by go_num,jb,HSN.out (by first|rfl|trivial),HB3.out⟩
    case measure=>simp [intOf];omega
   ·go_wp2
    go_ret
    exact ⟨_,rfl,by rw [HXK.out (by first|rfl|trivial)];exact HK.out,HB3.out⟩
  ·obtain rfl:k=n:=jb
   have HF:=jx (HE.out hs.out)
   clear HX HE
   have hnl:decide ((k:Int)<(k:Int))=false:=by simp
   go_wp2
   go_ret
   exact ⟨_,rfl,by rw [HF.out];rfl,hbel⟩
theorem MG (p:Nat→Prop) (v:Value) (a:fK) (w:World) (hA:kT w p v a) (la:a.length≤140737488351232) :
  Calls Tryz.prog 123 #[v,.func (.func 124) #[] #[]] w fun e w'=>e = .returned (.bool (Qe (fun i=>EW (ix a i)) a.length))∧Below w.heap.size w w':=by
 have HC:=jx (Xj p v a w hA la)
 generalize Qe (fun i=>EW (ix a i)) a.length=T at *
 clear hA
 go_enter Tryz.func123,Tryz.ntmps123
 go_wp2_with fail
 refine HC.out.mono ?_
 rintro e w3 ⟨i,rfl,hi,hb3⟩
 have HI:=jx hi
 have HB3:=jx hb3
 clear hi hb3 HC
 go_wp2
 go_ret
 exact ⟨BX HI.out,HB3.out⟩
theorem abx {P:Program} {w:World} {base:Nat} {t T:TypeId} {sz bytes:Nat} {v x:Value} {n m:Nat} {F G:Nat→List Value} {p:Nat→Prop}
  (h1:P.underlying t=some (.slice T)) (h2:(P.info? T).map (fun i=>(i.zero.map (fun z=>z.cells.size),i.size,i.bytes))=some (some sz,sz,bytes)) (hsz:0<sz)
  (hown:ku w base T sz v n F) (hx:Sl w p sz x m G) (h1c : ∀ i,i<m→∀ u∈G i,u.oneCell' = true) (hn:(n+m)*bytes≤140737488355328) (hn2:n+m≤4294967296) (hbase:base≤w.heap.size) :
  ∃ v' w',(∀ ty,(Builtin.append_ #[t,t] ty #[v,x]).run P w = .ok v' w')∧ku w' base T sz v' (n+m) (fun j=>if j<n then F j else G (j - n))∧Below base w w':=by
 obtain ⟨i,z,hi,hz,hzs,hsize,hbb⟩:=OH h2
 obtain ⟨a,cap,rfl,hc1,hc2,hr,hGl⟩:=hx
 have hfin : ∀ v' w',w'.ownsRow base T sz v' (n+m) ((List.range n).flatMap F ++ (List.range m).flatMap G)→ku w' base T sz v' (n+m) (fun j=>if j<n then F j else G (j - n)):=fun v' w' ho=>by
  refine ⟨?_,fun i hi=>?_⟩
  ·have e:(List.range n).flatMap F ++ (List.range m).flatMap G=(List.range (n+m)).flatMap (fun j=>if j<n then F j else G (j - n)):=by
    rw [List.range_add,List.flatMap_append]
    congr 1
    ·rw [List.flatMap_def,List.flatMap_def]
     congr 1
     exact List.map_congr_left fun j hj=>by rw [if_pos (by simpa using hj)]
    ·rw [List.flatMap_map,List.flatMap_def,List.flatMap_def]
     congr 1
     exact List.map_congr_left fun j hj=>by rw [if_neg jb];congr 1;omega
   rw [← e];exact ho
  ·dsimp only
   split
   ·rename_i h;exact hown.2 i h
   ·rename_i h;exact hGl (i - n) jb
 cases a with
 | none =>
  have hm:m=0:=by
   rcases hr with h|⟨b,off,h,_⟩
   ·exact h
   ·cases h
  subst hm
  obtain ⟨sLen,sCap,bs,rfl,hle⟩ : ∃ sLen sCap bs,v = .slice bs sLen sCap∧sLen≤sCap:=by
   rcases hown.form with ⟨rfl,rfl⟩|⟨g,cap',rfl,_,hn',_⟩
   ·exact ⟨0,0,none,rfl,jp⟩
   ·exact ⟨_,_,_,rfl,hn'⟩
  refine ⟨_,w,fun ty=>run_append_nothing w t t ty T i h1 hi bs sLen sCap hle (.slice none 0 cap) ?_,?_,Below.refl _ _⟩
  ·exact { kind:=.inl ⟨T,h1⟩,len:=by simp [lenOf,go_sem],newsLen:=by simp,cells:=run_firstCells_none w _ _ _ _,cellsD:=run_firstCells_none w.drew _ _ _ _,one:=by simp }
  ·exact hown.congr fun i hi=>by rw [if_pos hi]
 | some ad =>
  have hnews : ∀ j u,((List.range m).flatMap G)[j]?=some u→w.cell? (ad.add j)=some u:=fun j u hj=>by
   rcases hr with h|⟨b,off,h,-,-,hrd⟩
   ·subst h;simp at hj
   ·simp only [Option.some.injEq] at h
    subst h
    have hjl:j<m*sz:=by
     have h9:=(List.getElem?_eq_some_iff.mp hj).1
     have hlen:((List.range m).flatMap G).length=m*sz:=by
      clear hj h9 hn hn2 hrd h1c hc1 hfin
      induction m with
      | zero=>simp
      | succ m ih =>
       rw [List.range_succ,List.flatMap_append,List.length_append,ih (fun i hi=>hGl i jb)]
       simp [hGl m jb,Nat.succ_mul]
     omega
    have hq:=hrd (j/sz) (j%sz) (Nat.div_lt_of_lt_mul (by rw [Nat.mul_comm];exact hjl)) (Nat.mod_lt _ hsz)
    have hfl:=uJ m hGl (j/sz) (j%sz) (Nat.div_lt_of_lt_mul (by rw [Nat.mul_comm];exact hjl)) (Nat.mod_lt _ hsz)
    have e:j/sz*sz+j%sz=j:=by rw [Nat.mul_comm];exact Nat.div_add_mod j sz
    rw [e] at hfl
    rw [← hfl,hj] at hq
    have ea:(⟨b,off,none⟩:Addr).add j=⟨b,off+j/sz*sz+j%sz,none⟩:=by
     unfold Addr.add;split
     ·rename_i h0;subst h0;simp
     ·rw [Nat.add_assoc,e]
    rw [ea];exact hq
  have hlen:((List.range m).flatMap G).length=m*sz:=by
   clear hnews hn hn2 h1c hc1 hr hfin
   induction m with
   | zero=>simp
   | succ m ih =>
    rw [List.range_succ,List.flatMap_append,List.length_append,ih (fun i hi=>hGl i jb)]
    simp [hGl m jb,Nat.succ_mul]
  have hone : ∀ u∈(List.range m).flatMap G,u.oneCell' = true:=fun u hu=>by
   obtain ⟨i,hi,hu⟩:=List.mem_flatMap.mp hu
   exact h1c i (by simpa using hi) u hu
  obtain ⟨v',w',jk,ho9,hg9,-⟩:=run_append_own (P:=P) w base t 0 T i z sz bytes h1 hi hz hsize hbb hzs hsz v n _ hown.1 ad m cap _ hlen hnews hone (by unfold maxLen;omega) hn hbase
  exact ⟨v',w',fun ty=>jk,hfin v' w' ho9,Cb hown.1 hg9 hbase⟩
theorem Xk {α:Type} [Inhabited α] (l1 l2:List α) (j:Nat):ix (l1 ++ l2) j=if j<l1.length then ix l1 j else ix l2 (j - l1.length):=by
 unfold ix
 by_cases h:j<l1.length
 ·rw [if_pos h];simp [List.getD,List.getElem?_append_left h]
 ·rw [if_neg h];simp [List.getD,List.getElem?_append_right (Nat.le_of_not_lt h)]
theorem Uh:(Tryz.prog.info? 93).map (fun i=>(i.zero.map (fun z=>z.cells.size),i.size,i.bytes))=some (some 5,5,56):=by kernel_rfl
theorem aeR : ∃ i z,Tryz.prog.info? 93=some i∧i.zero=some z∧z.cells.size=5∧i.size=5∧i.bytes=56:=OH Uh
theorem aby (n:Nat) (w:World) (hn:n≤1000000) :
  Calls Tryz.prog 159 #[.slice none 0 0,.int .i64 (n:Int)] w (aoJ w 93 0 5 fun _=>[]):=by
 by_cases h0:n=0
 ·subst h0
  go_enter Tryz.func159,Tryz.ntmps159
  go_wp2
  go_ret
  exact ⟨_,rfl,ku.nil _ _ _ _ _,Below.refl _ _⟩
 ·obtain ⟨i,z,hi,hz,hzs,hsize,hbb⟩:=aeR
  have hrz : ∀ ty,(Builtin.append_ #[94,3] ty #[.slice none 0 0,.int .i64 (n:Int)]).run Tryz.prog w =
    .ok (.slice (some ⟨w.heap.size,0,none⟩) (0+n) (grownCap w (0+n) 0 93)) (w.drew.alloc (.cells ((#[]:Array Value) ++ Builtin.zeroCells z.cells n ++ Builtin.zeroCells z.cells (grownCap w (0+n) 0 93 - (0+n))) 93)):=fun ty =>
   Lib.run_append_grow_zeros w 94 3 ty 93 i z .i64 .i64 Tryz.underlying94 Tryz.underlying3 hi hz none 0 0 [] (run_firstCells_none w.drew _ _ _ _) n jb jb jb jb
    (by rw [hbb];omega) (by rw [hbb,Nat.zero_add,nextslicecap_zero jb];omega)
  have hGn:0+n≤grownCap w (0+n) 0 93:=grownCap_ge w _ _ _
  have hGm:=grownCap_le_maxLen w (0+n) 0 93 (by unfold maxLen;omega)
  have hown:ku (w.drew.alloc (.cells ((#[]:Array Value) ++ Builtin.zeroCells z.cells n ++ Builtin.zeroCells z.cells (grownCap w (0+n) 0 93 - (0+n))) 93)) w.heap.size 93 5 (.slice (some ⟨w.heap.size,0,none⟩) 0 (grownCap w (0+n) 0 93)) 0 (fun _=>[]):=by
   refine ⟨⟨by simp,.inr ⟨w.heap.size,_,_,rfl,jp,heap_alloc_new w.drew _,jb,hGm,?_,by simp⟩⟩,fun i hi=>jb⟩
   simp only [Nat.zero_add] at hGn ⊢
   simp [size_zeroCells,hzs]
   rw [← Nat.add_mul];congr 1;omega
  have HO:=jx hown
  have hz5:(w.drew.alloc (.cells ((#[]:Array Value) ++ Builtin.zeroCells z.cells n ++ Builtin.zeroCells z.cells (grownCap w (0+n) 0 93 - (0+n))) 93)).heap.size=w.heap.size+1:=by simp
  have HB:=jx (show Below w.heap.size w (w.drew.alloc (.cells ((#[]:Array Value) ++ Builtin.zeroCells z.cells n ++ Builtin.zeroCells z.cells (grownCap w (0+n) 0 93 - (0+n))) 93)) from (Below.refl _ _).drew.alloc kc _)
  clear hown hz5
  generalize grownCap w (0+n) 0 93=G at *
  generalize hW:w.drew.alloc (.cells ((#[]:Array Value) ++ Builtin.zeroCells z.cells n ++ Builtin.zeroCells z.cells (G - (0+n))) 93)=W at *
  have h1:(0:Int)<(n:Int):=jb
  unfold maxLen at hGm
  clear hW hi hz hzs hsize hbb
  go_enter Tryz.func159,Tryz.ntmps159
  go_wp2_with (at_builtin;refine Lib.wpList_append_run _ rfl _ _ _ _ rfl _ _ rfl rfl _ _ (hrz _) ?_)
  go_ret
  exact ⟨_,rfl,HO.out,HB.out⟩
def tot (a:fK) (k:Nat):Nat:=(a.take k).flatten.length
theorem aeS (a:fK):tot a 0=0:=by simp [tot]
theorem aeT {a:fK} {k:Nat} (h:k<a.length):tot a (k+1)=tot a k+(ix a k).length:=by
 unfold tot;rw [aZ h];simp
theorem JX {a:fK} {k:Nat} : tot a k≤a.flatten.length:=by
 unfold tot
 conv=>rhs;rw [← List.take_append_drop k a]
 rw [List.flatten_append,List.length_append];omega
theorem aiJ (a:fK):tot a a.length=a.flatten.length:=by unfold tot;rw [List.take_length]
def prt (a:fK) (k j:Nat):List Value:=(ix (a.take k).flatten j).c
theorem aeU {a:fK} {k:Nat} (h:k<a.length) (j:Nat):(if j<tot a k then prt a k j else (ix (ix a k) (j - tot a k)).c)=prt a (k+1) j:=by
 unfold prt tot
 rw [aZ h,List.flatten_append,List.flatten_singleton,Xk]
 split <;> rfl
theorem aiK (a:fK) (j:Nat):prt a a.length j=(ix a.flatten j).c:=by unfold prt;rw [List.take_length]
theorem aiL (x:x9) : ∀ u∈x.c,u.oneCell' = true:=by unfold x9.c;simp [Value.oneCell']
theorem F7 (p:Nat→Prop) (v:Value) (a:fK) (w:World) (hA:kT w p v a) (la:a.length≤140737488351232) (lf:a.flatten.length≤1000000) :
  Calls Tryz.prog 125 #[v] w (aoJ w 93 a.flatten.length 5 fun i=>(ix a.flatten i).c):=by
 obtain ⟨G,hS,hQ⟩:=hA
 obtain ⟨aa,cap,rfl,-,-⟩:=hS.form
 have HS:=jx hS
 have HQ:=jx hQ
 have HTS:=jx (fun k h=>aeT (a:=a) (k:=k) h)
 have HTL:=jx (fun k=>JX (a:=a) (k:=k))
 have HT0:=jx (aeS a)
 have HPS:=jx (fun k h=>aeU (a:=a) (k:=k) h)
 have HTA:=jx (aiJ a)
 have HPA:=jx (aiK a)
 clear hS hQ
 generalize hfl:a.flatten.length=N at *
 generalize hff:(fun i=>(ix a.flatten i).c)=FF at *
 have HPA:=jx (show ∀ j,prt a a.length j=FF j from fun j=>by rw [HPA.out,← hff])
 clear hff hfl
 generalize tot a=TT at *
 generalize hpp:prt a=PP at *
 clear hpp
 generalize hn:a.length=n at *
 go_enter Tryz.func125,Tryz.ntmps125
 go_wp2_with fail
 go_loopw [3,11] (fun s i wr=>∃ k:Nat,i = .int .i64 k∧k≤n∧s = .int .i64 (TT k:Int)∧w=wr) (fun _ i _=>n - (intOf i).toNat)
 case atStart=>exact ⟨0,rfl,jb,by rw [HT0.out];rfl,rfl⟩
 case round =>
  obtain ⟨k,rfl,hk,rfl,rfl⟩:=hrel
  by_cases hlt:k<n
  ·obtain ⟨b,off,rfl,-,-,-⟩:=HS.out.get jb
   have c0:=HS.out.cellAt rfl (Below.refl _ _) (i:=k) (j:=0) hlt jb
   obtain ⟨v2,hG,hR⟩:=HQ.out k hlt
   obtain ⟨a2,cap2,rfl,-,-⟩:=hR.plain.form
   rw [hG,Nat.mul_one,Nat.add_zero] at c0
   have c1:w.cell? ⟨b,off+k,none⟩=some (Value.slice a2 (ix a k).length cap2):=c0
   have e1:=HTS.out k jb
   have e2:=HTL.out (k+1)
   have bD:TT k+(ix a k).length≤1000000:=jb
   have HE1:=jx e1
   have i1:(0:Int)≤(k:Int):=jb
   have i2:(k:Int)<(n:Int):=jb
   clear c0 hG hR HTS HTL HPS HTA HPA
   generalize (ix a k).length=m at *
   clear e1 e2
   generalize ht1:TT (k+1)=t1 at *
   have HT1:=jx ht1
   clear ht1
   generalize TT k=t0 at *
   have e3:IntKind.i64.wrap ((t0:Int)+(m:Int))=(t0:Int)+(m:Int):=IntWalk.i64_in _ jb
   have e6:decide ((t0:Int)+(m:Int)<0)=false:=decide_eq_false jb
   go_wp2
   go_roundw
   case rel=>exact ⟨k+1,by go_num,jb,by rw [HT1.out,HE1.out];simp,by simp⟩
   case measure=>simp [intOf];omega
  ·obtain rfl:k=n:=jb
   have hnl:decide ((k:Int)<(k:Int))=false:=by simp
   have hle:=HTL.out k
   have HGR:=jx (aby (TT k) w jb)
   go_wp2_with fail
   refine HGR.out.mono ?_
   rintro e w1 ⟨v1,rfl,ho1,hb1⟩
   have HO1:=jx (ho1.congr (G:=PP 0) fun i hi=>jb)
   have HB1:=jx hb1
   clear ho1 hb1 HGR
   go_wp2_with fail
   go_loopw [6,27] (fun v i W=>∃ q:Nat,i = .int .i64 q∧q≤k∧ku W w.heap.size 93 5 v (TT q) (PP q)∧Below w.heap.size w W) (fun _ i _=>k - (intOf i).toNat)
   case atStart=>exact ⟨0,rfl,jb,by rw [HT0.out];exact HO1.out,HB1.out⟩
   case round =>
    obtain ⟨q,rfl,hq,hown,hbel⟩:=hrel
    have HB:=jx hbel
    have hsz:=hbel.size
    by_cases hlt:q<k
    ·obtain ⟨b,off,rfl,-,-,-⟩:=HS.out.get jb
     have c0:=HS.out.cellAt rfl HB.out (i:=q) (j:=0) hlt jb
     obtain ⟨v2,hG,hR⟩:=HQ.out q hlt
     rw [hG,Nat.mul_one,Nat.add_zero] at c0
     have e1:=HTS.out q jb
     have e2:=HTL.out (q+1)
     have hap:=abx (t:=94) Tryz.underlying94 Uh jb hown (hR.on hbel).plain (fun i hi u hu=>aiL _ u hu) jb jb hsz
     obtain ⟨a2,cap2,rfl,-,-⟩:=hR.plain.form
     obtain ⟨v9,w9,jk,ho9,bD⟩:=hap
     have c1:wr.cell? ⟨b,off+q,none⟩=some (Value.slice a2 (ix a q).length cap2):=c0
     have HO9:=jx (show ku w9 w.heap.size 93 5 v9 (TT (q+1)) (PP (q+1)) from by rw [e1];exact ho9.congr fun i hi=>HPS.out q jb i)
     have HB9:=jx (HB.out.trans bD)
     have i1:(0:Int)≤(q:Int):=jb
     have i2:(q:Int)<(k:Int):=jb
     clear c0 hG hR ho9 bD hown hbel HTS HTL HPS HTA HPA HT0
     go_wp2_with (at_builtin;refine Lib.wpList_append_run _ rfl _ _ _ _ rfl _ _ rfl rfl _ _ (jk _) ?_)
     go_roundw
     case rel=>exact ⟨q+1,by go_num,jb,HO9.out,HB9.out⟩
     case measure=>simp [intOf];omega
    ·obtain rfl:q=k:=jb
     have hnl:decide ((q:Int)<(q:Int))=false:=by simp
     have HR:=jx (show ku wr w.heap.size 93 5 u6 N FF from by rw [← HTA.out];exact hown.congr fun i _=>HPA.out i)
     go_wp2
     go_ret
     exact ⟨_,rfl,HR.out,HB.out⟩
end Go.Proofs.Ins
namespace Go.Proofs
open Go.Shelf
def Tryz.lays189_ren:Go.Shelf.Ren:=⟨fun|189=>126|125=>161|257=>160|128=>177|129=>187|294=>178|295=>179|296=>180|297=>181|298=>182|299=>183|216=>184|300=>185|301=>186|328=>196|329=>197|330=>198|331=>199|332=>200|215=>201|343=>207|n=>n,fun|28=>123|3=>3|46=>90|0=>0|51=>138|53=>139|4=>4|183=>248|182=>247|131=>253|5=>5|9=>9|218=>262|222=>266|228=>275|229=>276|n=>n,fun|n=>n⟩
theorem Tryz.lays189:Go.Proofs.Lays.n189 Tryz.prog Tryz.lays189_ren:={
 mixed:=by kernel_rfl
 f125:=Tryz.func161.trans (congrArg some (by kernel_rfl))
 f128:=Tryz.func177.trans (congrArg some (by kernel_rfl))
 f129:=Tryz.func187.trans (congrArg some (by kernel_rfl))
 f189:=Tryz.func126.trans (congrArg some (by kernel_rfl))
 f215:=Tryz.func201.trans (congrArg some (by kernel_rfl))
 f216:=Tryz.func184.trans (congrArg some (by kernel_rfl))
 f257:=Tryz.func160.trans (congrArg some (by kernel_rfl))
 f294:=Tryz.func178.trans (congrArg some (by kernel_rfl))
 f295:=Tryz.func179.trans (congrArg some (by kernel_rfl))
 f296:=Tryz.func180.trans (congrArg some (by kernel_rfl))
 f297:=Tryz.func181.trans (congrArg some (by kernel_rfl))
 f298:=Tryz.func182.trans (congrArg some (by kernel_rfl))
 f299:=Tryz.func183.trans (congrArg some (by kernel_rfl))
 f300:=Tryz.func185.trans (congrArg some (by kernel_rfl))
 f301:=Tryz.func186.trans (congrArg some (by kernel_rfl))
 f328:=Tryz.func196.trans (congrArg some (by kernel_rfl))
 f329:=Tryz.func197.trans (congrArg some (by kernel_rfl))
 f330:=Tryz.func198.trans (congrArg some (by kernel_rfl))
 f331:=Tryz.func199.trans (congrArg some (by kernel_rfl))
 f332:=Tryz.func200.trans (congrArg some (by kernel_rfl))
 f343:=Tryz.func207.trans (congrArg some (by kernel_rfl))
 t0:=Tryz.underlying0
 a0:=Tryz.isAgg0
 z0:=Tryz.sizeOf0
 v0:=Tryz.zeroValue0
 t3:=Tryz.underlying3
 a3:=Tryz.isAgg3
 z3:=Tryz.sizeOf3
 v3:=Tryz.zeroValue3
 t4:=Tryz.underlying4
 a4:=Tryz.isAgg4
 z4:=Tryz.sizeOf4
 v4:=Tryz.zeroValue4
 t5:=Tryz.underlying5
 a5:=Tryz.isAgg5
 z5:=Tryz.sizeOf5
 v5:=Tryz.zeroValue5
 t9:=Tryz.underlying9
 a9:=Tryz.isAgg9
 z9:=Tryz.sizeOf9
 v9:=Tryz.zeroValue9
 t28:=Tryz.underlying123
 a28:=Tryz.isAgg123
 z28:=Tryz.sizeOf123
 v28:=Tryz.zeroValue123
 t46:=Tryz.underlying90
 a46:=Tryz.isAgg90
 z46:=Tryz.sizeOf90
 v46:=Tryz.zeroValue90
 t51:=Tryz.underlying138
 a51:=Tryz.isAgg138
 z51:=Tryz.sizeOf138
 v51:=Tryz.zeroValue138
 t53:=Tryz.underlying139
 a53:=Tryz.isAgg139
 z53:=Tryz.sizeOf139
 v53:=Tryz.zeroValue139
 t131:=Tryz.underlying253
 a131:=Tryz.isAgg253
 z131:=Tryz.sizeOf253
 v131:=Tryz.zeroValue253
 t182:=Tryz.underlying247
 a182:=Tryz.isAgg247
 z182:=Tryz.sizeOf247
 v182:=Tryz.zeroValue247
 t183:=Tryz.underlying248
 a183:=Tryz.isAgg248
 z183:=Tryz.sizeOf248
 v183:=Tryz.zeroValue248
 t218:=Tryz.underlying262
 a218:=Tryz.isAgg262
 z218:=Tryz.sizeOf262
 v218:=Tryz.zeroValue262
 t222:=Tryz.underlying266
 a222:=Tryz.isAgg266
 z222:=Tryz.sizeOf266
 v222:=Tryz.zeroValue266
 t228:=Tryz.underlying275
 a228:=Tryz.isAgg275
 z228:=Tryz.sizeOf275
 v228:=Tryz.zeroValue275
 t229:=Tryz.underlying276
 a229:=Tryz.isAgg276
 z229:=Tryz.sizeOf276
 v229:=Tryz.zeroValue276 }
open Go.Sort Go.RowKit in
theorem Tryz.slices_Sort_int (blk off cap:Nat) (zs:List Int) (w:World) (hH:Holds (Value.int .i64) w blk off zs.toArray) (hblk:blk<w.heap.size) (hsz:zs.length<4611686018427387904) :
  Calls Tryz.prog 126 #[.slice (some ⟨blk,off,none⟩) zs.length cap] w fun e w' =>
   e = .returned (.tuple #[])∧∃ n os,w' = grow (putRow (Value.int .i64) (Sort.ahead w n) blk off (zs.mergeSort fun x y=>decide (x≤y)).toArray) os:=Any.slices_Sort_int Tryz.lays189 blk off cap zs w hH hblk hsz
open Go.RowKit Go.Sort in
theorem Tryz.slices_Sort_int_none (p:Option Addr) (cap:Nat) (w:World) :
  Calls Tryz.prog 126 #[.slice p 0 cap] w fun e w'=>e = .returned (.tuple #[])∧w' = w:=Any.slices_Sort_int_none Tryz.lays189 p cap w
def Tryz.laysNm220_ren:Go.Shelf.Ren:=⟨fun|20=>127|n=>n,fun|22=>123|3=>3|4=>4|0=>0|n=>n,fun|n=>n⟩
theorem Tryz.laysNm220:Go.Proofs.Lays2.n20 Tryz.prog Tryz.laysNm220_ren:={
 mixed:=by kernel_rfl
 f20:=Tryz.func127.trans (congrArg some (by kernel_rfl))
 t0:=Tryz.underlying0
 a0:=Tryz.isAgg0
 z0:=Tryz.sizeOf0
 v0:=Tryz.zeroValue0
 t3:=Tryz.underlying3
 a3:=Tryz.isAgg3
 z3:=Tryz.sizeOf3
 v3:=Tryz.zeroValue3
 t4:=Tryz.underlying4
 a4:=Tryz.isAgg4
 z4:=Tryz.sizeOf4
 v4:=Tryz.zeroValue4
 t22:=Tryz.underlying123
 a22:=Tryz.isAgg123
 z22:=Tryz.sizeOf123
 v22:=Tryz.zeroValue123
 i3:=by kernel_rfl }
open Go.RowKit Go.Lib Go.Sort in
theorem Tryz.slices_Compact_int (blk off cap:Nat) (zs:List Int) (w:World) (hH:Holds (Value.int .i64) w blk off zs.toArray) (hsz:zs.length≤9223372036854775807) (hcap:zs.length≤cap) :
  Calls Tryz.prog 127 #[.slice (some ⟨blk,off,none⟩) zs.length cap] w fun e w'=>e = .returned (.slice (some ⟨blk,off,none⟩) (Lib.compact zs).length cap)∧∃ q,w' = putRow (Value.int .i64) (Sort.ahead w q) blk off (Lib.compact zs ++ List.replicate (zs.length - (Lib.compact zs).length) 0).toArray:=Any.slices_Compact_int Tryz.laysNm220 blk off cap zs w hH hsz hcap
open Go.RowKit Go.Lib Go.Sort in
theorem Tryz.slices_Compact_int_empty (a:Option Addr) (cap:Nat) (w:World) :
  Calls Tryz.prog 127 #[.slice a 0 cap] w fun e w'=>e = .returned (.slice a 0 cap)∧w' = w:=Any.slices_Compact_int_empty Tryz.laysNm220 a cap w
end Go.Proofs
namespace Go.Proofs.Ins
open Go.RowKit

theorem ku.mono {w:World} {base base' : Nat} {T:TypeId} {sz:Nat} {v:Value} {n:Nat} {F:Nat→List Value} (h:ku w base T sz v n F) (hb:base'≤base):ku w base' T sz v n F:=by
 obtain ⟨⟨h1,h2⟩,h3⟩:=h
 refine ⟨⟨h1,?_⟩,h3⟩
 rcases h2 with h2|⟨g,cap,cur,hv,hg,r⟩
 ·exact .inl h2
 ·exact .inr ⟨g,cap,cur,hv,Nat.le_trans hb hg,r⟩
theorem aiM:(Tryz.prog.info? 3).map (fun i=>(i.zero.map (fun z=>z.cells.size),i.size,i.bytes))=some (some 1,1,8):=by kernel_rfl
end Go.Proofs.Ins
namespace Go.Proofs.Ins
/-! ### The members of an agreement -/
def vO (a:fK):List Int:=Lib.compact (((a.flatten.map fun x=>x.k).filter fun x=>x != -1).mergeSort fun x y=>decide (x≤y))
theorem y8 (d:Array Int) (hs : ∀ i j,i≤j→j<d.size→d[i]!≤d[j]!) : ∀ m,m≤d.size→(Lib.compactUpTo d m).Pairwise (· < ·)∧∀ x∈Lib.compactUpTo d m,0<m∧x≤d[m - 1]!
 | 0,_=>by unfold Lib.compactUpTo;simp
 | m+1,hm=>by
  obtain ⟨h1,h2⟩:=y8 d hs m (by omega)
  rw [Lib.compactUpTo_succ]
  have h3 : ∀ x∈Lib.compactUpTo d m,x≤d[m]!:=fun x hx=>by
   obtain ⟨h4,h5⟩:=h2 x hx
   have:=hs (m - 1) m (by omega) (by omega)
   omega
  rw [show m+1 - 1=m by omega]
  by_cases hk:Lib.keeps d m=true
  ·rw [if_pos hk]
   have h6 : ∀ x∈Lib.compactUpTo d m,x<d[m]!:=fun x hx=>by
    obtain ⟨h4,h5⟩:=h2 x hx
    have h7:=hs (m - 1) m (by omega) (by omega)
    unfold Lib.keeps at hk
    have hk:=of_decide_eq_true hk
    rcases hk with hk|hk
    ·omega
    ·omega
   refine ⟨List.pairwise_append.mpr ⟨h1,List.pairwise_singleton _ _,fun x hx y hy=>?_⟩,fun x hx=>⟨by omega,?_⟩⟩
   ·rw [List.mem_singleton] at hy
    rw [hy];exact h6 x hx
   ·rcases List.mem_append.mp hx with hx|hx
    ·exact h3 x hx
    ·rw [List.mem_singleton] at hx;rw [hx];exact Int.le_refl _
  ·rw [if_neg hk,List.append_nil]
   exact ⟨h1,fun x hx=>⟨by omega,h3 x hx⟩⟩
theorem Xl {zs:List Int} (hs:zs.Pairwise (·≤·)):(Lib.compact zs).Pairwise (· < ·):=by
 refine (y8 zs.toArray (fun i j hij hj=>?_) zs.length kc).1
 have hj:j<zs.length:=by simpa using hj
 have hi:i<zs.length:=jb
 simp only [List.getElem!_toArray]
 rw [getElem!_pos zs i hi,getElem!_pos zs j hj]
 by_cases e:i=j
 ·subst e;exact Int.le_refl _
 ·exact List.pairwise_iff_getElem.mp hs i j hi hj jb
theorem mem_compact {zs:List Int} {x:Int} : x∈Lib.compact zs↔x∈zs:=by
 unfold Lib.compact Lib.compactUpTo
 rw [List.mem_map]
 constructor
 ·rintro ⟨j,hj,rfl⟩
  rw [List.mem_filter] at hj
  have:j<zs.length:=by simpa using hj.1
  simp [getElem!_pos,this]
 ·intro hx
  obtain ⟨i,hi,rfl⟩:=List.getElem_of_mem hx
  have : ∀ j,j<zs.length→∃ k,k≤j∧Lib.keeps zs.toArray k=true∧zs.toArray[k]! = zs.toArray[j]!:=by
   intro j
   induction j with
   | zero=>intro _;exact ⟨0,jp,by simp [Lib.keeps],rfl⟩
   | succ j ih =>
    intro hj
    by_cases e:zs.toArray[j+1]! = zs.toArray[j]!
    ·obtain ⟨k,h1,h2,h3⟩:=ih jb
     exact ⟨k,jb,h2,by rw [h3,e]⟩
    ·exact ⟨j+1,jp,by simp only [Lib.keeps];exact decide_eq_true (.inr (by simpa using e)),rfl⟩
  obtain ⟨k,h1,h2,h3⟩:=this i hi
  refine ⟨k,List.mem_filter.mpr ⟨by simp;omega,h2⟩,?_⟩
  rw [h3];simp [getElem!_pos,hi]
theorem Y7 (a:fK):(vO a).Pairwise (· < ·):=by
 refine Xl ?_
 have:=List.pairwise_mergeSort (le:=fun x y:Int=>decide (x≤y)) (fun a b c h1 h2=>by simp at *;omega) (fun a b=>by simp;omega) ((a.flatten.map fun x=>x.k).filter fun x=>x != -1)
 exact this.imp fun h=>by simpa using h
theorem qC {a:fK} {c:Int} : c∈vO a↔c≠-1∧Dw a c=true:=by
 unfold vO
 rw [mem_compact,List.mem_mergeSort,List.mem_filter,List.mem_map]
 unfold Dw memT
 rw [List.any_eq_true]
 constructor
 ·rintro ⟨⟨x,hx,rfl⟩,h⟩
  obtain ⟨t,ht,hx⟩:=List.mem_flatten.mp hx
  exact ⟨by simpa using h,t,ht,List.any_eq_true.mpr ⟨x,hx,by simp⟩⟩
 ·rintro ⟨h,t,ht,h2⟩
  obtain ⟨x,hx,e⟩:=List.any_eq_true.mp h2
  have e:x.k=c:=by simpa using e
  exact ⟨⟨x,List.mem_flatten.mpr ⟨t,ht,hx⟩,e⟩,by simpa using h⟩
end Go.Proofs.Ins
