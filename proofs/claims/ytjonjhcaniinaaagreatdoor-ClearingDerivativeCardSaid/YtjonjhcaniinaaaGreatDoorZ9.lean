/- An bJ for runs without arguments: abstract values, an abstract heap, the operations. -/
import Derived.Test.YtjonjhcaniinaaaGreatDoorZ8
import Derived.OrdersHeld
import Derived.LaidMore
import Derived.Stop.Joined
import Derived.Test.YtjonjhcaniinaaaGreatDoorCards
import Derived.Lay
import Derived.SevenTiedAt
import Derived.Laws.AppendOwn
import Derived.Below
set_option linter.all false
set_option maxRecDepth 100000
set_option maxHeartbeats 8000000
namespace Go.Proofs.Ins
open Go.RowKit
theorem ND (i j:Int) (w:World) (h1 : -4294967295≤i) (h2:i≤4294967295) (h3:0<j) (h4:j≤9223372036854775807) :
  Calls Tryz.prog 46 #[.int .i64 i,.int .i64 j] w fun e w'=>e = .returned (.agg #[.bool (rn ((i:Rat)/(j:Rat))),.string (rs ((i:Rat)/(j:Rat))),.string (rd ((i:Rat)/(j:Rat)))])∧Below w.heap.size w w':=by
 have HF:=jx (fun w=>L8 i j w h1 h2 h3 h4)
 unfold Ru at HF
 generalize (i:Rat)/(j:Rat)=r at *
 generalize rn r=r1 at *
 generalize rs r=r2 at *
 generalize rd r=r3 at *
 go_enter Tryz.func46,Tryz.ntmps46
 go_wp2_with fail
 refine (HF.out _).mono ?_;rintro e w3 ⟨rfl,hb3⟩
 obtain ⟨H2,HB⟩:=fZ hb3
 have z:=H2.lt
 obtain ⟨b0,b1,b2,f0,f1,f2⟩:=H2.bC
 have HB:=jx HB
 have H2:=jx H2
 clear hb3
 have q9:=aQ HB.out jp (.bool r1) (.string r2) (.string r3)
 go_wp2
 refine aC (fun W=>bY W w.heap.size #[.bool r1,.string r2,.string r3]∧Below w.heap.size w W) ⟨by exact (bY.jE H2.out _ _ _).alloc _,by exact q9.alloc q9.size _⟩ ?_
 rintro WR ⟨jk,bD⟩
 obtain ⟨y90,y91,jM,-,-,-⟩:=jk.bC
 exact bodyPost_ret (v:=.agg #[.bool r1,.string r2,.string r3]) (by simp [results,Tryz.results46,go_sem,y90,y91,jM]) rfl ⟨rfl,bD⟩
theorem zU (i:Int) (w:World) (h1 : -9223372036854775808≤i) (h2:i≤9223372036854775807) :
  Calls Tryz.prog 45 #[.int .i64 i] w fun e w'=>e = .returned (.agg #[.bool (rn (i:Rat)),.string (rs (i:Rat)),.string (rd (i:Rat))])∧Below w.heap.size w w':=by
 have HF:=jx (fun w=>ac4 i w h1 h2)
 generalize (i:Rat)=r at *
 generalize rn r=r1 at *
 generalize rs r=r2 at *
 generalize rd r=r3 at *
 go_enter Tryz.func45,Tryz.ntmps45
 go_wp2_with fail
 refine (HF.out _).mono ?_;rintro e w3 ⟨rfl,hb3⟩
 obtain ⟨H2,HB⟩:=fZ hb3
 obtain ⟨b0,b1,b2,f0,f1,f2⟩:=H2.bC
 have HB:=jx HB
 have H2:=jx H2
 clear hb3
 go_wp2
 refine aC (fun W=>bY W (w.heap.size) #[.bool r1,.string r2,.string r3]∧Below w.heap.size w W) ⟨by exact bY.jE H2.out _ _ _,aQ HB.out jb _ _ _⟩ ?_
 rintro WR ⟨jk,bD⟩
 obtain ⟨y90,y91,jM,-,-,-⟩:=jk.bC
 exact bodyPost_ret (v:=.agg #[.bool r1,.string r2,.string r3]) (by simp [results,Tryz.results45,go_sem,y90,y91,jM]) rfl ⟨rfl,bD⟩
def amt (x:Nat):Rat:=if x%5=0 then (((x/5%23:Nat):Int):Rat)/(((1+x/115%6:Nat):Int):Rat) else if x%5=1 then (((10*(x/5%4):Nat):Int):Rat) else (((x/5%13:Nat):Int):Rat)
theorem Yx {x:Nat} (h:x%5=0):amt x=(((x/5%23:Nat):Int):Rat)/(((1+x/115%6:Nat):Int):Rat):=by unfold amt;rw [if_pos h]
theorem ac6 {x:Nat} (h:x%5=1):amt x=(((10*(x/5%4):Nat):Int):Rat):=by unfold amt;rw [if_neg jb,if_pos h]
theorem ac7 {x:Nat} (h : ¬ x%5=0) (h1 : ¬ x%5=1):amt x=(((x/5%13:Nat):Int):Rat):=by unfold amt;rw [if_neg h,if_neg h1]
set_option maxRecDepth 100000 in
theorem Wp (x:Nat) (w:World) (hx:x≤65535) :
  Calls Tryz.prog 24 #[.int .u16 (x:Int)] w fun e w'=>e = .returned (.agg #[.bool (rn (amt x)),.string (rs (amt x)),.string (rd (amt x))])∧Below w.heap.size w w':=by
 by_cases h:x%5=0
 ·have hF:=fun w=>ND ((x/5%23:Nat):Int) ((1+x/115%6:Nat):Int) w (by omega) (by omega) (by omega) (by omega)
  rw [← Yx h,show ((x/5%23:Nat):Int)=(x:Int)/5%23 by omega,show ((1+x/115%6:Nat):Int)=1+(x:Int)/115%6 by omega] at hF
  have HF:=Lib.hid hF
  generalize amt x=r at *
  generalize rn r=r1 at *
  generalize rs r=r2 at *
  generalize rd r=r3 at *
  clear hF
  go_enter Tryz.func24,Tryz.ntmps24
  go_wp2_with fail
  refine (HF.out _).mono ?_;rintro e w3 ⟨rfl,hb3⟩
  obtain ⟨H2,HB⟩:=fZ hb3
  obtain ⟨b0,b1,b2,f0,f1,f2⟩:=H2.bC
  have HB:=Lib.hid HB
  have H2:=Lib.hid H2
  clear hb3
  go_wp2
  refine aC (fun W=>bY W (w.heap.size) #[.bool r1,.string r2,.string r3]∧Below w.heap.size w W) ⟨by exact bY.jE H2.out _ _ _,aQ HB.out (by omega) _ _ _⟩ ?_
  rintro WR ⟨jk,bD⟩
  obtain ⟨y90,y91,jM,-,-,-⟩:=jk.bC
  exact bodyPost_ret (v:=.agg #[.bool r1,.string r2,.string r3]) (by simp [results,Tryz.results24,go_sem,y90,y91,jM]) rfl ⟨rfl,bD⟩
 ·by_cases h1:x%5=1
  ·have hF:=fun w=>zU ((10*(x/5%4):Nat):Int) w (by omega) (by omega)
   rw [← ac6 h1,show ((10*(x/5%4):Nat):Int)=10*((x:Int)/5%4) by omega] at hF
   have HF:=Lib.hid hF
   generalize amt x=r at *
   generalize rn r=r1 at *
   generalize rs r=r2 at *
   generalize rd r=r3 at *
   clear hF
   go_enter Tryz.func24,Tryz.ntmps24
   go_wp2_with fail
   refine (HF.out _).mono ?_;rintro e w3 ⟨rfl,hb3⟩
   obtain ⟨H2,HB⟩:=fZ hb3
   obtain ⟨b0,b1,b2,f0,f1,f2⟩:=H2.bC
   have HB:=Lib.hid HB
   have H2:=Lib.hid H2
   clear hb3
   go_wp2
   refine aC (fun W=>bY W (w.heap.size) #[.bool r1,.string r2,.string r3]∧Below w.heap.size w W) ⟨by exact bY.jE H2.out _ _ _,aQ HB.out (by omega) _ _ _⟩ ?_
   rintro WR ⟨jk,bD⟩
   obtain ⟨y90,y91,jM,-,-,-⟩:=jk.bC
   exact bodyPost_ret (v:=.agg #[.bool r1,.string r2,.string r3]) (by simp [results,Tryz.results24,go_sem,y90,y91,jM]) rfl ⟨rfl,bD⟩
  ·have hF:=fun w=>zU ((x/5%13:Nat):Int) w (by omega) (by omega)
   rw [← ac7 h h1,show ((x/5%13:Nat):Int)=(x:Int)/5%13 by omega] at hF
   have HF:=Lib.hid hF
   have h3:((x:Int)%5 == 0)=false:=by simp;omega
   have h4:((x:Int)%5 == 1)=false:=by simp;omega
   generalize amt x=r at *
   generalize rn r=r1 at *
   generalize rs r=r2 at *
   generalize rd r=r3 at *
   clear hF
   go_enter Tryz.func24,Tryz.ntmps24
   go_wp2_with fail
   refine (HF.out _).mono ?_;rintro e w3 ⟨rfl,hb3⟩
   obtain ⟨H2,HB⟩:=fZ hb3
   obtain ⟨b0,b1,b2,f0,f1,f2⟩:=H2.bC
   have HB:=Lib.hid HB
   have H2:=Lib.hid H2
   clear hb3
   go_wp2
   refine aC (fun W=>bY W (w.heap.size) #[.bool r1,.string r2,.string r3]∧Below w.heap.size w W) ⟨by exact bY.jE H2.out _ _ _,aQ HB.out (by omega) _ _ _⟩ ?_
   rintro WR ⟨jk,bD⟩
   obtain ⟨y90,y91,jM,-,-,-⟩:=jk.bC
   exact bodyPost_ret (v:=.agg #[.bool r1,.string r2,.string r3]) (by simp [results,Tryz.results24,go_sem,y90,y91,jM]) rfl ⟨rfl,bD⟩

section
variable {P:Program} {ops:Array Oper} {md:Region.Mode} {S:World→Prop} {Q:Exit→Act→World→Prop}
end
inductive Yy where
 | fin (qs:List Nat)
 | one (qs:List Nat) (i:Nat) (t:Yy)
 | two (qs:List Nat) (i j:Nat) (t u:Yy)
def Yy.len:Yy→Nat
 | .fin qs=>qs.length
 | .one qs _ t=>t.len+1+qs.length
 | .two qs _ _ t _=>t.len+1+qs.length
section
variable {P:Program} {ops:Array Oper} {md:Region.Mode} {S:World→Prop} {Q:Exit→Act→World→Prop}
end
structure ala (W:World) (X:Nat→Bool) where
 d:Nat
 heap:Array Obj
 size:W.heap.size≤heap.size
 block : ∀ k,k<W.heap.size→X k=false→heap[k]?=W.heap[k]?
def ala.w {W:World} {X:Nat→Bool} (p:ala W X):World:={ W with drawn:=p.d,heap:=p.heap }
instance (W:World) (X:Nat→Bool):Inhabited (ala W X):=⟨⟨0,W.heap,jp,fun _ _ _=>rfl⟩⟩
def aoJ (w:World) (T:TypeId) (n sz:Nat) (F:Nat→List Value) (e:Ending) (w' : World):Prop :=
 ∃ v,e = .returned v∧ku w' w.heap.size T sz v n F∧Below w.heap.size w w'
def c16 (L:Nat→Nat) (i:Nat):List Value:=[.int .u16 (L i:Int)]
def lenOf:Value→Nat
 | .slice _ n _=>n
 | _=>0
end Go.Proofs.Ins
namespace Go.Proofs.Ins
open Go Go.RowKit Go.ChangeShapes Go.WideShapes Go.Deep
theorem OG.congr {w:World} {a:Option Addr} {n sz:Nat} {F G:Nat→List Value} (h:OG w a n sz F) (hg : ∀ i,i<n→F i=G i):OG w a n sz G:=by
 rcases h with h|⟨b,off,ha,hl,hr⟩
 ·exact .inl h
 ·exact .inr ⟨b,off,ha,hl,fun i j hi hj=>by rw [← hg i hi];exact hr i j hi hj⟩
section
variable {H:Type} {enc:TypeId×Value→H} {W:World} {sp:Nat→Bool} {held:Bool}
theorem ac8 {fuel:Nat} {cs:List Value} {x:DataW H×List MemPlace} (h:DataW.trod enc Tryz.prog W 0 sp held fuel 22 cs=some x) (hL:Light Tryz.prog 22 x.1) :
  ∃ a n cap,∃ M:Nat→Nat,cs=[.slice a n cap]∧n≤140737488351232∧OG W a n 1 (c16 M)∧∀ i,i<n→M i≤65535:=by
 obtain ⟨a,n,cap,C,rfl,hn,hs,hx⟩:=Ei (k:=1) Tryz.underlying22 (by kernel_rfl) jb (of_decide_eq_true (by kernel_rfl)) h hL
 obtain ⟨M,hM⟩:=choose_lt (α:=Nat) (p:=fun i m=>C i=[.int .u16 (m:Int)]∧m≤65535) (fun i hi=>by
  obtain ⟨_,n,y,h1,h2⟩:=hx i hi
  exact nG h1)
 exact ⟨a,n,cap,M,rfl,hn,hs.congr fun i hi=>(hM i hi).1,fun i hi=>(hM i hi).2⟩
theorem AA {P:Program} (hl:laidOutB P=true) {W W' : World} (hb:Below W.heap.size W W') : ∀ {ts:List TypeId} {vs:List Value} {ds:List (DataW H)} {p:List MemPlace},
  (ts.all fun t=>P.readableRec t && decide (t<P.types.size))=true→DataW.TrodAll enc P W 0 (fun _=>true) true ts vs ds p→(∀ x∈p,x.block<W.heap.size)→DataW.TrodAll enc P W' 0 (fun b=>decide (b<W.heap.size)) true ts vs ds p
 | [],_,_,_,_,h,_=>by
  obtain ⟨rfl,rfl,rfl⟩:=trodAll_nil h
  exact h
 | t::ts,_,_,_,ht,h,hp=>by
  obtain ⟨v,vs1,d,ds1,a,b,rfl,rfl,rfl,h1,h2⟩:=trodAll_cons h
  simp only [List.all_cons,Bool.and_eq_true,decide_eq_true_eq] at ht
  exact ⟨a,b,Below.trod hl ht.1.1 ht.1.2 h1 hb (fun x hx=>hp x (List.mem_append_left _ hx)),AA hl hb ht.2 h2 (fun x hx=>hp x (List.mem_append_right _ hx)),rfl⟩
end
theorem laidOut' : laidOutB Tryz.prog=true:=by kernel_rfl
end Go.Proofs.Ins
namespace Go.Proofs.Ins
open Go Go.RowKit Go.ChangeShapes Go.WideShapes Go.ChangeAt Go.Proofs.YtjonjhcaniinaaaGreatDoor
theorem own' : ownKnob Tryz.prog.godebug=none:=by kernel_rfl
def YB : List (String × DataW Unit) := [("unicode/utf8.acceptRanges", Rows.laid_unicode_utf8_acceptRanges), ("unicode/utf8.first", Rows.laid_unicode_utf8_first)]
section
variable {H:Type} {enc:TypeId×Value→H} {W:World}
theorem sH {P:Program} {r:Reach} {b:Nat} {t e:TypeId} {v:Value} {d:DataW H} {p:List MemPlace} {sp:Nat→Bool} {held:Bool} (ht:P.underlying t=some (.slice e)) (hv:Value.okWide P W r b t v) (h:DataW.Trod enc P W 0 sp held t v d p) :
  ∃ a n c f,v = .slice a n c∧DataW.trod enc P W 0 sp held f t [.slice a n c]=some (d,p):=by
 obtain ⟨a,n,c,rfl⟩:=okWide_slice ht hv
 obtain ⟨f,h⟩:=h
 exact ⟨a,n,c,f,rfl,h⟩
theorem ac9 {f:FuncId} {fn:Func} {s:ChangeSpec} {args:Array Value} {ds:List (DataW H)} {before:List MemPlace}
  (hs:s.vars=[]) (hr:fn.resultTypes = #[4]) (hfn:s.fn H (ds ++ []) = { results:=[.lit (.bool true)],args:=ds })
  (ht:(fn.params.toList.all fun t=>Tryz.prog.readableRec t && decide (t<Tryz.prog.types.size))=true)
  (hW:DataW.Whole enc Tryz.prog fn.params.toList s.vars false W args.toList ds [] before)
  (hw:Calls Tryz.prog f args W fun e w'=>e = .returned (.bool true)∧Below W.heap.size W w') :
  Calls Tryz.prog f args W fun e W'=>∃ v,e = .returned v∧s.post enc Tryz.prog fn false true false false W args v W':=by
 refine hw.mono fun e W' ⟨he,hB⟩=>?_
 subst he
 have hW':=hW
 obtain ⟨p,q,hA,hV,rfl,hfz,hnd⟩:=hW
 refine ⟨_,rfl,ds,[],p ++ q,[],p,[],hW',?_,?_,?_,hB.frame _,fun h=>by cases h⟩
 ·rw [hfn,hr]
  exact trodAll_mk1 (shut_bool Tryz.underlying4 _)
 ·rw [hfn]
  exact AA laidOut' hB ht hA (fun x hx=>hW'.lt x (List.mem_append_left _ hx))
 ·rw [hfn,hs]
  rfl
end
section
variable {H:Type} {enc:TypeId×Value→H} {W:World}
theorem arI {r:Reach} {b:Nat} {v:Value} {d:DataW H} {p:List MemPlace} {sp:Nat→Bool} {held:Bool} (hv:Value.okWide Tryz.prog W r b 5 v) (h:DataW.Trod enc Tryz.prog W 0 sp held 5 v d p) :
  ∃ n:Nat,v = .int .u8 (n:Int)∧n≤255:=by
 obtain ⟨n,rfl,-,-,hw⟩:=open_int Tryz.underlying5 hv h
 have hw2:0≤n∧n≤255:=by simpa [Lit.wf,IntKind.min,IntKind.max,IntKind.signed,IntKind.bits] using hw
 exact ⟨n.toNat,by rw [Int.toNat_of_nonneg hw2.1],jb⟩
end
end Go.Proofs.Ins
namespace Go.Proofs.Xe
open Go.RowKit Go.Proofs.Ins
inductive Tt (α:Type) where
 | leaf
 | node (l:Tt α) (v:Option α) (r:Tt α)
inductive YC where
 | e
 | l (p:YC)
 | r (p:YC)
 | bad
noncomputable def pathOf (d:Nat):Nat→YC :=
 Nat.rec (motive:=fun _=>Nat→YC) (fun _=>.bad) (fun _ ih k=>Bool.rec (motive:=fun _=>YC) (Bool.rec (motive:=fun _=>YC) (.r (ih (Nat.sub (Nat.div k 2) 1))) (.l (ih (Nat.div k 2))) (Nat.beq (Nat.mod k 2) 1)) .e (Nat.beq k 0)) d
noncomputable def yI {α:Type} (p:YC):Tt α→Option α :=
 YC.rec (motive:=fun _=>Tt α→Option α) (fun t=>Tt.rec (motive:=fun _=>Option α) none (fun _ v _ _ _=>v) t) (fun _ ih t=>Tt.rec (motive:=fun _=>Option α) none (fun l _ _ _ _=>ih l) t)
  (fun _ ih t=>Tt.rec (motive:=fun _=>Option α) none (fun _ _ r _ _=>ih r) t) (fun _=>none) p
noncomputable def ahe {α:Type} (x:Option α) (r:Tt α) (o:Option (Tt α)):Option (Tt α):=Option.rec (motive:=fun _=>Option (Tt α)) none (fun l=>some (.node l x r)) o
noncomputable def ahf {α:Type} (x:Option α) (l:Tt α) (o:Option (Tt α)):Option (Tt α):=Option.rec (motive:=fun _=>Option (Tt α)) none (fun r=>some (.node l x r)) o
noncomputable def Eu {α:Type} (v:Option α) (p:YC):Tt α→Option (Tt α) :=
 YC.rec (motive:=fun _=>Tt α→Option (Tt α)) (fun t=>Tt.rec (motive:=fun _=>Option (Tt α)) (some (.node .leaf v .leaf)) (fun l _ r _ _=>some (.node l v r)) t)
  (fun _ ih t=>Tt.rec (motive:=fun _=>Option (Tt α)) (ahe none .leaf (ih .leaf)) (fun l x r _ _=>ahe x r (ih l)) t)
  (fun _ ih t=>Tt.rec (motive:=fun _=>Option (Tt α)) (ahf none .leaf (ih .leaf)) (fun l x r _ _=>ahf x l (ih r)) t) (fun _=>none) p
theorem kW {α:Type} (a b:Nat) (x y:α):(bif Nat.beq a b then x else y)=if a=b then x else y:=by
 by_cases h:a=b
 ·subst h;rw [if_pos rfl,show Nat.beq a a=true from by simp];rfl
 ·rw [if_neg h,show Nat.beq a b=false from by
   cases hb:Nat.beq a b with
   | true=>exact absurd (Nat.eq_of_beq_eq_true hb) h
   | false=>rfl];rfl
theorem FV (d k:Nat):pathOf (d+1) k=if k=0 then .e else if k%2=1 then .l (pathOf d (k/2)) else .r (pathOf d (k/2 - 1)):=by
 rw [← kW,← kW]
 show Bool.rec (motive:=fun _=>YC) _ _ _=_
 show Bool.rec (motive:=fun _=>YC) (Bool.rec (motive:=fun _=>YC) (.r (pathOf d (k/2 - 1))) (.l (pathOf d (k/2))) (Nat.beq (k%2) 1)) .e (Nat.beq k 0)=_
 cases Nat.beq k 0 <;> cases Nat.beq (k%2) 1 <;> rfl
theorem nH {α:Type} (p:YC):yI p (.leaf:Tt α)=none:=by cases p <;> rfl
theorem Jk {α:Type} (v:Option α) : ∀ (d k j:Nat) (t t' : Tt α),Eu v (pathOf d k) t=some t'→yI (pathOf d j) t' = if j=k then v else yI (pathOf d j) t
 | 0,k,j,t,t',h=>by cases h
 | d+1,k,j,t,t',h=>by
  rw [FV] at h
  rw [FV d j]
  by_cases hk:k=0
  ·rw [if_pos hk] at h
   subst hk
   cases t with
   | leaf =>
    have h1:some (Tt.node .leaf v .leaf)=some t':=h
    cases h1
    by_cases hj:j=0
    ·rw [if_pos hj,if_pos hj];rfl
    ·rw [if_neg hj,if_neg hj,nH]
     split
     ·exact nH _
     ·exact nH _
   | node l x r =>
    have h1:some (Tt.node l v r)=some t':=h
    cases h1
    by_cases hj:j=0
    ·rw [if_pos hj,if_pos hj];rfl
    ·rw [if_neg hj,if_neg hj]
     split
     ·rfl
     ·rfl
  ·rw [if_neg hk] at h
   by_cases hm:k%2=1
   ·rw [if_pos hm] at h
    obtain ⟨l,x,r,l',e1,e2,e3⟩ : ∃ l x r l',Eu v (pathOf d (k/2)) l=some l'∧t' = .node l' x r∧∀ j,yI j t=yI j (.node l x r)∨(t = .leaf∧l = .leaf∧r = .leaf∧x=none):=by
     cases t with
     | leaf =>
      have h1:ahe none .leaf (Eu v (pathOf d (k/2)) .leaf)=some t':=h
      cases hp:Eu v (pathOf d (k/2)) .leaf with
      | none=>rw [hp] at h1;cases h1
      | some l'=>rw [hp] at h1;exact ⟨.leaf,none,.leaf,l',hp,(Option.some.inj h1).symm,fun _=>.inr ⟨rfl,rfl,rfl,rfl⟩⟩
     | node l x r =>
      have h1:ahe x r (Eu v (pathOf d (k/2)) l)=some t':=h
      cases hp:Eu v (pathOf d (k/2)) l with
      | none=>rw [hp] at h1;cases h1
      | some l'=>rw [hp] at h1;exact ⟨l,x,r,l',hp,(Option.some.inj h1).symm,fun _=>.inl rfl⟩
    have e4 : ∀ p,yI p t=yI p (.node l x r):=fun p=>by
     rcases e3 p with h|⟨rfl,rfl,rfl,rfl⟩
     ·exact h
     ·rw [nH]
      cases p <;> first|rfl|exact (nH _).symm
    rw [e4,e2]
    by_cases hj:j=0
    ·rw [if_pos hj,if_neg jb];rfl
    ·rw [if_neg hj]
     by_cases hjm:j%2=1
     ·rw [if_pos hjm]
      show yI (pathOf d (j/2)) l' = if j=k then v else yI (pathOf d (j/2)) l
      rw [Jk v d _ _ _ _ e1]
      by_cases e:j=k
      ·subst e;rw [if_pos rfl,if_pos rfl]
      ·rw [if_neg jb,if_neg e]
     ·rw [if_neg hjm,if_neg (by intro e;subst e;exact hjm hm)];rfl
   ·rw [if_neg hm] at h
    obtain ⟨l,x,r,r',e1,e2,e3⟩ : ∃ l x r r',Eu v (pathOf d (k/2 - 1)) r=some r'∧t' = .node l x r'∧∀ j,yI j t=yI j (.node l x r)∨(t = .leaf∧l = .leaf∧r = .leaf∧x=none):=by
     cases t with
     | leaf =>
      have h1:ahf none .leaf (Eu v (pathOf d (k/2 - 1)) .leaf)=some t':=h
      cases hp:Eu v (pathOf d (k/2 - 1)) .leaf with
      | none=>rw [hp] at h1;cases h1
      | some r'=>rw [hp] at h1;exact ⟨.leaf,none,.leaf,r',hp,(Option.some.inj h1).symm,fun _=>.inr ⟨rfl,rfl,rfl,rfl⟩⟩
     | node l x r =>
      have h1:ahf x l (Eu v (pathOf d (k/2 - 1)) r)=some t':=h
      cases hp:Eu v (pathOf d (k/2 - 1)) r with
      | none=>rw [hp] at h1;cases h1
      | some r'=>rw [hp] at h1;exact ⟨l,x,r,r',hp,(Option.some.inj h1).symm,fun _=>.inl rfl⟩
    have e4 : ∀ p,yI p t=yI p (.node l x r):=fun p=>by
     rcases e3 p with h|⟨rfl,rfl,rfl,rfl⟩
     ·exact h
     ·rw [nH]
      cases p <;> first|rfl|exact (nH _).symm
    rw [e4,e2]
    by_cases hj:j=0
    ·rw [if_pos hj,if_neg jb];rfl
    ·rw [if_neg hj]
     by_cases hjm:j%2=1
     ·rw [if_pos hjm,if_neg (by intro e;subst e;exact hm hjm)];rfl
     ·rw [if_neg hjm]
      show yI (pathOf d (j/2 - 1)) r' = if j=k then v else yI (pathOf d (j/2 - 1)) r
      rw [Jk v d _ _ _ _ e1]
      by_cases e:j=k
      ·subst e;rw [if_pos rfl,if_pos rfl]
      ·rw [if_neg jb,if_neg e]
inductive Tr (α:Type) where
 | fn (f:Nat→Option α)
 | tree (t:Tt α)
noncomputable section
def Tr.leaf {α:Type} : Tr α:=.tree .leaf
def Tr.get {α:Type} (t:Tr α) (k:Nat):Option α:=match t with|.fn f=>f k|.tree t=>yI (pathOf 40 k) t
def Tr.set {α:Type} (t:Tr α) (k:Nat) (v:Option α):Tr α:=match t with
 | .fn f=>.fn fun j=>if j=k then v else f j
 | .tree t=>match Eu v (pathOf 40 k) t with|some t'=>.tree t'|none=>.fn fun j=>if j=k then v else yI (pathOf 40 j) t
def Tr.put {α:Type} (v:Option α) (_:Nat) (t:Tr α) (k:Nat):Option (Tr α):=some (t.set k v)
end
noncomputable instance {α:Type} : CoeFun (Tr α) (fun _=>Nat→Option α):=⟨Tr.get⟩
theorem Tr.lN {α:Type} (t:Tr α) (k:Nat) (v:Option α) (j:Nat):(t.set k v).get j=if j=k then v else t.get j:=by
 cases t with
 | fn f=>rfl
 | tree t =>
  unfold Tr.set
  dsimp only
  cases h:Eu v (pathOf 40 k) t with
  | none=>rfl
  | some t'=>exact Jk v 40 k j t t' h
theorem Tr.get_put {α:Type} (v:Option α) (d:Nat) (t t' : Tr α) (k j:Nat) (h:Tr.put v d t k=some t'):t'.get j=if j=k then v else t.get j:=by
 unfold Tr.put at h
 have h:=Option.some.inj h
 subst h
 exact Tr.lN t k v j
theorem Tr.C9 {α:Type} (k:Nat):(Tr.leaf:Tr α).get k=none:=nH _
inductive Cap where
 | ex (k:Nat)
 | opn
 | any
 deriving DecidableEq
inductive B where
 | int (k:IntKind) (n:Int)
 | bool (b:Bool)
 | str (s:ByteArray)
 | nat (n:Nat)
 | ptr (b o:Nat)
 | Px
 | sl (b o n:Nat) (c:Cap)
 | aY
 | mp (b:Nat)
 | any
 deriving DecidableEq
inductive V where
 | c (x:B)
 | agg (l:List B)
 | fn (f:Nat) (caps:List B)
 | Jl
 | tnil
 | cZ (a r:V)
 | und
 deriving DecidableEq
structure Bk where
 cells:List B
 opn:Option (Nat×Nat)
structure St where
 h:Tr Bk
 ah:Nat
inductive O where
 | t (i:Nat)
 | k (v:V)
 deriving DecidableEq
inductive qL where
 | mov (x:O)
 | pick (c a b:O)
 | load (n:Nat) (agg:Bool) (x:O)
 | store (n:Nat) (a x:O)
 | yJ (off:Nat) (x:O)
 | field (off n:Nat) (agg:Bool) (x:O)
 | AB (fU:Nat) (x i:O)
 | ext (i:Nat) (x:O)
 | bin (op:BinOp) (x y:O)
 | eqb (pos:Bool) (x y:O)
 | AL (pos:Bool) (x y:O)
 | Dc (pos:Bool) (x y:O)
 | nil (k:Nat) (pos:Bool) (x:O)
 | not (x:O)
 | conv (k:IntKind) (x:O)
 | build (zero:List B) (parts:List (Nat×Nat×O))
 | Py (f:Nat) (caps:List O)
 | len (x:O)
 | slice (fU:Nat) (x:O) (lo hi mx:Option O)
 | alloc (zero:List B)
 | box (x:O)
 | Gs (bytes:Nat) (zero:List B) (l c:O)
 | bsl (fU n:Nat) (zero:List B) (parts:List (Nat×Nat×O))
 | app (ty fU bytes:Nat) (s x:O)
 | call (g:O) (args:List O)
 | L9 (x:O)
 | min2 (x y:O)
 | Jm
 | Jo
 | lookup (m k:O)
 | Wq (m k v:O)
 | bad
 deriving DecidableEq
structure AO where
 dst:Option Nat
 g:Option (Nat×Bool)
 op:qL
 deriving DecidableEq
structure DO where
 i:Nat
 us:List Nat
 os:List Nat
 o:AO
inductive Dr where
 | fin (qs:List DO)
 | act (qs:List DO) (x:DO) (r:Dr)
inductive AC where
 | skip
 | ops (l:List AO)
 | drawn (d:Dr) (pt:List (List Nat)) (ds:List Nat)
 | seq (a b:AC)
 | cond (c:O) (a b:AC)
 | block (i:Nat) (a:AC)
 | loop (a:AC)
 | exit (i:Nat)
 | ret
 | bad
structure AF where
 n:Nat
 body:AC
 res:List (Nat×Option (Nat×Bool))
inductive AX where
 | normal
 | exit (i:Nat)
 | ret
 deriving DecidableEq
noncomputable section
def Bk.pl (k:Bk):Bool:=match k.opn with|some (0,_)=>false|_=>true
def Bk.rd (k:Bk):Bool:=match k.opn with|some (0,t)=>Nat.beq t 1|_=>true
def V.cells:V→Option (List B)
 | .c x=>some [x]
 | .agg l=>some l
 | _=>none
def Tr.aj (tm:Tr V) (i:Nat):V:=match tm.get i with|some v=>v|none=>.und
def O.ev (tm:Tr V):O→V
 | .t i=>tm.aj i
 | .k v=>v
def LP:IntKind→Int→Bool
 | .i64,.ofNat m=>Nat.ble m 9223372036854775807
 | .i64,.negSucc m=>Nat.ble m 9223372036854775807
 | .u8,.ofNat m=>Nat.ble m 255
 | _,_=>false
def fN {α:Sort _} (m:Nat) (f:Nat→α):α:=match m with|0=>f 0|n+1=>f (n+1)
theorem iY {α:Sort _} (m:Nat) (f:Nat→α):fN m f=f m:=by cases m <;> rfl
def fI {α:Sort _} (m:Int) (f:Int→α):α:=match m with|.ofNat n=>fN n fun n=>f (.ofNat n)|.negSucc n=>fN n fun n=>f (.negSucc n)
theorem aj8 {α:Sort _} (m:Int) (f:Int→α):fI m f=f m:=by
 cases m with
 | ofNat n=>exact iY n fun n=>f (.ofNat n)
 | negSucc n=>exact iY n fun n=>f (.negSucc n)
def mkI (k:IntKind) (n:Int):Option V:=fI n fun n=>bif LP k n then some (.c (.int k n)) else none
def atm:Bool→V→Bool
 | true,.agg _=>true
 | false,.c _=>true
 | _,_=>false
def B.kn:B→Bool
 | .any=>false
 | _=>true
def yw (l:List B) (o n:Nat) (agg:Bool):Option V :=
 match agg with
 | true=>let r:=(l.drop o).take n
  bif Nat.beq r.length n && r.all B.kn then some (.agg r) else none
 | false=>match l.drop o with|x::_=>bif x.kn then some (.c x) else none|[]=>none
def uT:List B→Nat→List B→Option (List B)
 | l,0,vs=>bif Nat.ble vs.length l.length then some (vs ++ l.drop vs.length) else none
 | [],_+1,_=>none
 | x::l,o+1,vs=>match uT l o vs with|some r=>some (x::r)|none=>none
def Ws (op:BinOp) (k:IntKind) (a b:Int):Option V :=
 match op with
 | .shr=>bif decide (b<0) then none else some (.c (.int k (a.fdiv (2 ^ (min b.toNat k.bits)))))
 | .shl=>bif decide (b<0) then none else some (.c (.int k (k.wrap (a*2 ^ (min b.toNat k.bits)))))
 | _=>none
def yK (op:BinOp) (k:IntKind) (a b:Int):Option V :=
 match op with
 | .add=>some (.c (.int k (k.wrap (a+b))))
 | .sub=>some (.c (.int k (k.wrap (a - b))))
 | .mul=>some (.c (.int k (k.wrap (a*b))))
 | .quo=>bif decide (b=0) then none else some (.c (.int k (k.wrap (a.tdiv b))))
 | .rem=>bif decide (b=0) then none else some (.c (.int k (a.tmod b)))
 | .and=>some (.c (.int k (k.wrap ((BitVec.ofInt k.bits a &&& BitVec.ofInt k.bits b).toNat))))
 | .or=>some (.c (.int k (k.wrap ((BitVec.ofInt k.bits a ||| BitVec.ofInt k.bits b).toNat))))
 | op=>Ws op k a b
def Wu (op:BinOp) (k:IntKind) (a b:Int):Option V :=
 match op with
 | .add=>match k with|.i64=>mkI .i64 (a+b)|k=>yK .add k a b
 | .sub=>match k with|.i64=>mkI .i64 (a - b)|k=>yK .sub k a b
 | .mul=>match k with|.i64=>mkI .i64 (a*b)|k=>yK .mul k a b
 | .eql=>some (.c (.bool (decide (a=b))))
 | .neq=>some (.c (.bool (!decide (a=b))))
 | .lss=>some (.c (.bool (decide (a<b))))
 | .leq=>some (.c (.bool (decide (a≤b))))
 | .gtr=>some (.c (.bool (decide (b<a))))
 | .geq=>some (.c (.bool (decide (b≤a))))
 | op=>yK op k a b
def qp (op:BinOp):V→V→Option V
 | .c (.int j a),.c (.int k b)=>bif decide (j=k) then Wu op j a b else Ws op j a b
 | .c (.str a),.c (.str b)=>match op with|.eql=>some (.c (.bool (decide (a=b))))|.neq=>some (.c (.bool (!decide (a=b))))|_=>none
 | .c (.nat a),.c (.nat b)=>match op with|.eql=>some (.c (.bool (Nat.beq a b)))|.neq=>some (.c (.bool (!Nat.beq a b)))|_=>none
 | .c (.nat a),.c (.str b)=>bif Nat.beq b.size 0 then (match op with|.eql=>some (.c (.bool (Nat.beq a 0)))|.neq=>some (.c (.bool (!Nat.beq a 0)))|_=>none) else none
 | _,_=>none
def B.num:B→Option Nat
 | .nat n=>some n
 | .str s=>bif Nat.beq s.size 0 then some 0 else none
 | _=>none
def eqS (x y:B):Option Bool:=match x,y with
 | .str a,.str b=>some (decide (a=b))
 | x,y=>match x.num,y.num with
  | some m,some n=>some (Nat.beq m n)
  | _,_=>none
def eqB:List B→List B→Option Bool
 | [.bool a,b,c],[.bool d,e,f]=>match eqS b e,eqS c f with|some x,some y=>some ((a == d) && (x && y))|_,_=>none
 | _,_=>none
def uU:List B→List (Nat×Nat×V)→Option (List B)
 | z,[]=>some z
 | z,(o,n,v)::r=>match v.cells with
  | some l=>bif Nat.beq l.length n then match uT z o l with|some z=>uU z r|none=>none else none
  | none=>none
def Df:V→Option Nat
 | .c (.int .i64 (.ofNat n))=>some n
 | _=>none
def St.new (σ:St) (k:Bk):Option (Nat×St) :=
 match Tr.put (some k) 40 σ.h σ.ah with
 | some h=>fN (σ.ah+1) fun m=>some (σ.ah,⟨h,m⟩)
 | none=>none
def rep (z:List B):Nat→List B
 | 0=>[]
 | n+1=>z ++ rep z n
def SX (b:Option O) (tm:Tr V) (d:Nat):Option Nat :=
 match b with
 | none=>some d
 | some x=>Df (x.ev tm)
def aay (tm:Tr V):List O→Option (List B)
 | []=>some []
 | x::r=>match x.ev tm,aay tm r with|.c b,some l=>some (b::l)|_,_=>none
def aj9 (c a b:O) (tm:Tr V):Option V :=
 match c.ev tm with|.c (.bool t)=>some (bif t then a.ev tm else b.ev tm)|_=>none
def YD (n:Nat) (g:Bool) (x:O) (tm:Tr V) (σ:St):Option V :=
 match x.ev tm with
  | .c (.ptr b o)=>match σ.h.get b with|some k=>bif k.rd then yw k.cells o n g else none|none=>none
  | _=>none
def eqI:Int→Int→Bool
 | .ofNat m,.ofNat n=>Nat.beq m n
 | .negSucc m,.negSucc n=>Nat.beq m n
 | _,_=>false
def hasB:List B→Int→Int→Bool
 | .int _ e :: .int _ k::r,a,b=>bif eqI e a && eqI k b then true else hasB r a b
 | _,_,_=>false
def YE (m k:O) (tm:Tr V) (σ:St):Option V :=
 match m.ev tm,k.ev tm with
  | .c (.mp b),.agg [.int .i64 e,.int .i64 j]=>match σ.h.get b with
   | some ⟨c,some (0,0)⟩=>bif LP .i64 e && LP .i64 j then some (.c (.bool (hasB c e j))) else none
   | _=>none
  | _,_=>none
def Wv (off:Nat) (x:O) (tm:Tr V):Option V :=
 match x.ev tm with|.c (.ptr b o)=>fN (o+off) fun m=>some (.c (.ptr b m))|_=>none
def ada (off n:Nat) (g:Bool) (x:O) (tm:Tr V):Option V :=
 match x.ev tm with|.agg l=>yw l off n g|_=>none
def Wx (fU:Nat) (x i:O) (tm:Tr V):Option V :=
 match x.ev tm,Df (i.ev tm) with
  | .c (.sl b o len _),some j=>bif Nat.blt j len then fN (o+j*fU) fun m=>some (.c (.ptr b m)) else none
  | _,_=>none
def adb (i:Nat) (x:O) (tm:Tr V):Option V :=
 match x.ev tm,i with
  | .cZ a _,0=>some a
  | .cZ _ (.cZ a _),1=>some a
  | .cZ _ (.cZ _ (.cZ a _)),2=>some a
  | _,_=>none
def aoK (p:Bool) (x y:O) (tm:Tr V):Option V :=
 match x.ev tm,y.ev tm with
  | .c (.bool a),.c (.bool b)=>some (.c (.bool (p == (a == b))))
  | _,_=>none
def eqL:List B→List B→Option Bool
 | [.int .i64 a,.int .i64 b],[.int .i64 c,.int .i64 d]=>some (decide (a=c) && decide (b=d))
 | _,_=>none
def ade (p:Bool) (x y:O) (tm:Tr V):Option V :=
 match x.ev tm,y.ev tm with
  | .agg l,.agg r=>match eqL l r with|some b=>some (.c (.bool (p == b)))|none=>none
  | _,_=>none
def adf (p:Bool) (x y:O) (tm:Tr V):Option V :=
 match x.ev tm,y.ev tm with
  | .agg l,.agg r=>match eqB l r with|some b=>some (.c (.bool (p == b)))|none=>none
  | _,_=>none
def aoL (k:Nat) (p:Bool) (x:O) (tm:Tr V):Option V :=
 match k,x.ev tm with
  | 0,.c (.sl ..)=>some (.c (.bool (!p)))
  | 0,.c .aY=>some (.c (.bool p))
  | 1,.c (.ptr ..)=>some (.c (.bool (!p)))
  | 1,.c .Px=>some (.c (.bool p))
  | 2,.fn ..=>some (.c (.bool (!p)))
  | 2,.Jl=>some (.c (.bool p))
  | _,_=>none
def aoM (x:O) (tm:Tr V):Option V :=
 match x.ev tm with|.c (.bool b)=>some (.c (.bool !b))|_=>none
def akb (k:IntKind) (x:O) (tm:Tr V):Option V :=
 match x.ev tm with|.c (.int _ n)=>bif LP k n then some (.c (.int k n)) else some (.c (.int k (k.wrap n)))|_=>none
def adg (z:List B) (ps:List (Nat×Nat×O)) (tm:Tr V):Option V :=
 match uU z (ps.map fun p=>(p.1,p.2.1,p.2.2.ev tm)) with|some l=>some (.agg l)|none=>none
def akc (f:Nat) (cs:List O) (tm:Tr V):Option V :=
 match aay tm cs with|some l=>some (.fn f l)|none=>none
def qlen (x:O) (tm:Tr V):Option V :=
 match x.ev tm with|.c (.sl _ _ n _)=>some (.c (.int .i64 (.ofNat n)))|.c .aY=>some (.c (.int .i64 (.ofNat 0)))|_=>none
def Jp (fU:Nat) (x:O) (lo hi mx:Option O) (tm:Tr V):Option V :=
 match x.ev tm with
  | .c (.sl b o n c) =>
   match SX lo tm 0,SX hi tm n with
   | some l,some h=>bif Nat.ble l h && Nat.ble h n then
     match mx with
     | none=>(match c with
      | .ex k=>bif Nat.blt l k then fN (o+l*fU) fun m=>fN (h - l) fun j=>fN (k - l) fun q=>some (.c (.sl b m j (.ex q))) else some (.c (.sl b o 0 .any))
      | .opn=>bif Nat.beq l 0 then some (.c (.sl b o h .opn)) else bif Nat.blt l n then fN (o+l*fU) fun m=>fN (h - l) fun j=>some (.c (.sl b m j .any)) else some (.c (.sl b o 0 .any))
      | .any=>bif Nat.blt l n then fN (o+l*fU) fun m=>fN (h - l) fun j=>some (.c (.sl b m j .any)) else some (.c (.sl b o 0 .any)))
     | some y=>match Df (y.ev tm) with
      | some q=>bif Nat.ble h q && Nat.ble q n then bif Nat.beq l 0 then some (.c (.sl b o h (bif Nat.beq n 0 then .any else .ex q))) else none else none
      | none=>none
    else none
   | _,_=>none
  | .c .aY=>match SX lo tm 0,SX hi tm 0 with
   | some 0,some 0=>(match mx with|none=>some (.c .aY)|some y=>match Df (y.ev tm) with|some 0=>some (.c .aY)|_=>none)
   | _,_=>none
  | _=>none
def akd (x:O) (tm:Tr V):Option V :=
 match x.ev tm with|.c (.ptr b o)=>some (.c (.ptr b o))|.fn f l=>some (.fn f l)|_=>none
def ake (x y:O) (tm:Tr V):Option V :=
 match x.ev tm,y.ev tm with
  | .c (.int j a),.c (.int k b)=>bif decide (j=k) then (match decide (b<a) with|true=>some (.c (.int k b))|false=>some (.c (.int j a))) else none
  | _,_=>none
def dB (op:qL) (tm:Tr V) (σ:St):Option V :=
 match op with
 | .mov x=>some (x.ev tm)
 | .pick c a b=>aj9 c a b tm
 | .load n g x=>YD n g x tm σ
 | .lookup m k=>YE m k tm σ
 | .yJ off x=>Wv off x tm
 | .field off n g x=>ada off n g x tm
 | .AB fU x i=>Wx fU x i tm
 | .ext i x=>adb i x tm
 | .bin op x y=>qp op (x.ev tm) (y.ev tm)
 | .eqb p x y=>aoK p x y tm
 | .AL p x y=>adf p x y tm
 | .Dc p x y=>ade p x y tm
 | .nil k p x=>aoL k p x tm
 | .not x=>aoM x tm
 | .conv k x=>akb k x tm
 | .build z ps=>adg z ps tm
 | .Py f cs=>akc f cs tm
 | .len x=>qlen x tm
 | .slice fU x lo hi mx=>Jp fU x lo hi mx tm
 | .L9 x=>akd x tm
 | .min2 x y=>ake x y tm
 | _=>none
def kC (op:qL) (tm:Tr V):Option (List B×(Nat→V)) :=
 match op with
 | .alloc z=>some (z,fun b=>.c (.ptr b 0))
 | .box x=>match (x.ev tm).cells with|some l=>some (l,fun b=>.c (.ptr b 0))|none=>none
 | .Gs bytes z l c=>match Df (l.ev tm),Df (c.ev tm) with
  | some n,some m=>bif Nat.ble n m && (Nat.ble (bytes*m) 281474976710656 && Nat.ble m 1073741824) then some (rep z m,fun b=>.c (.sl b 0 n (.ex m))) else none
  | _,_=>none
 | .bsl fU n z ps=>bif Nat.ble (n*fU) 16777216 && Nat.ble n 16777216 then match uU (rep z n) (ps.map fun p=>(p.1,p.2.1,p.2.2.ev tm)) with
  | some l=>some (l,fun b=>.c (.sl b 0 n (.ex n)))
  | none=>none else none
 | _=>none
def oP (ty fU bytes:Nat) (s:V) (m:Nat) (news:List B) (σ:St):Option (V×St) :=
 match s with
 | .c .aY=>bif Nat.beq m 0 then some (.c .aY,σ) else bif Nat.blt 0 fU && (Nat.ble (m*bytes) 140737488355328 && Nat.ble m 1073741824) then
   match σ.new ⟨news,some (fU,ty)⟩ with|some (b,σ)=>some (.c (.sl b 0 m .opn),σ)|none=>none else none
 | .c (.sl b o n .opn)=>bif Nat.beq m 0 then some (.c (.sl b o n .opn),σ) else match σ.h.get b with
  | some ⟨cells,some (e,t)⟩=>bif Nat.blt 0 e && Nat.beq o 0 && (Nat.beq e fU && (Nat.beq t ty && (Nat.ble ((n+m)*bytes) 140737488355328 && (Nat.ble (n+m) 1073741824 && Nat.ble (n*fU) cells.length)))) then
    match Tr.put none 40 σ.h b with
    | some h=>match (⟨h,σ.ah⟩:St).new ⟨cells.take (n*fU) ++ news,some (fU,ty)⟩ with
     | some (b',σ)=>fN (n+m) fun q=>some (.c (.sl b' 0 q .opn),σ)
     | none=>none
    | none=>none else none
  | _=>none
 | .c (.sl b o n (.ex k))=>bif Nat.beq m 0 then bif Nat.ble n k then some (.c (.sl b o n (.ex k)),σ) else none else match σ.h.get b with
  | some bk=>bif (bk.rd && (Nat.blt 0 fU && ((bk.cells.drop o).take (n*fU)).all B.kn)) && Nat.blt k (n+m) && (Nat.ble ((n+m)*bytes) 140737488355328 && (Nat.ble (n+m) 1073741824 && Nat.ble (o+n*fU) bk.cells.length)) then
    match σ.new ⟨(bk.cells.drop o).take (n*fU) ++ news,some (fU,ty)⟩ with
    | some (b',σ)=>fN (n+m) fun q=>some (.c (.sl b' 0 q .opn),σ)
    | none=>none else none
  | none=>none
 | .c (.sl b o n .any)=>bif Nat.beq m 0 then some (.c (.sl b o n .any),σ) else none
 | _=>none
def qw (op:qL) (tm:Tr V) (σ:St):Option (V×St) :=
 match op with
 | .store n a x=>match a.ev tm,(x.ev tm).cells with
  | .c (.ptr b o),some vs=>bif Nat.beq vs.length n then match σ.h.get b with
   | some k=>match bif k.pl then uT k.cells o vs else none with
    | some l=>match Tr.put (some ⟨l,k.opn⟩) 40 σ.h b with|some h=>some (.und,⟨h,σ.ah⟩)|none=>none
    | none=>none
   | none=>none else none
  | _,_=>none
 | .app ty fU bytes s x=>match x.ev tm with
  | .c .aY=>oP ty fU bytes (s.ev tm) 0 [] σ
  | .c (.sl b o m _)=>bif Nat.beq m 0 then oP ty fU bytes (s.ev tm) 0 [] σ else match σ.h.get b with
   | some k=>let l:=(k.cells.drop o).take (m*fU)
    bif k.rd && (Nat.beq l.length (m*fU) && l.all B.kn) then oP ty fU bytes (s.ev tm) m l σ else none
   | none=>none
  | _=>none
 | .Jm=>some (.und,σ)
 | .Jo=>match σ.new ⟨[],some (0,0)⟩ with|some (b,σ)=>some (.c (.mp b),σ)|none=>none
 | .Wq m k x=>match m.ev tm,k.ev tm,x.ev tm with
  | .c (.mp b),.agg [.int .i64 e,.int .i64 j],.c (.bool true)=>match σ.h.get b with
   | some ⟨c,some (0,0)⟩=>bif LP .i64 e && (LP .i64 j && Nat.ble c.length 1000) then
     match Tr.put (some ⟨c ++ [.int .i64 e,.int .i64 j],some (0,0)⟩) 40 σ.h b with|some h=>some (.und,⟨h,σ.ah⟩)|none=>none
    else none
   | _=>none
  | _,_,_=>none
 | _=>none
def YF (op:qL) (tm:Tr V):Option (Nat×List V) :=
 match op with
 | .call g args=>match g.ev tm with
  | .fn f caps=>some (f,args.map (·.ev tm) ++ caps.map .c)
  | _=>none
 | _=>none
inductive Kd where|q|n|a|c
def qL.kind:qL→Kd
 | .alloc ..|.box ..|.Gs ..|.bsl ..=>.n
 | .store ..|.app ..|.Jm|.Jo|.Wq ..=>.a
 | .call ..=>.c
 | _=>.q
def Bf (tm:Tr V) (d:Option Nat) (v:V):Option (Tr V) :=
 match d with
 | none=>some tm
 | some d=>Tr.put (some v) 40 tm d
def lZ (cl:Nat→List V→St→Option (V×St)) (op:qL) (tm:Tr V) (σ:St):Option (V×St) :=
 match op.kind with
 | .q=>match dB op tm σ with|some v=>some (v,σ)|none=>none
 | .n=>match kC op tm with
  | some (l,v)=>match σ.new ⟨l,none⟩ with|some (b,σ)=>some (v b,σ)|none=>none
  | none=>none
 | .a=>qw op tm σ
 | .c=>match YF op tm with|some (f,args)=>cl f args σ|none=>none
def gate (g:Option (Nat×Bool)) (tm:Tr V):Option Bool :=
 match g with
 | none=>some true
 | some (t,b)=>match tm.aj t with
  | .c (.bool c)=>some (c == b)
  | .tnil=>some false
  | _=>none
def stepG (cl:Nat→List V→St→Option (V×St)) (o:AO) (tm:Tr V) (σ:St):Option (V×St) :=
 match gate o.g tm with
 | some true=>lZ cl o.op tm σ
 | some false=>some (.tnil,σ)
 | none=>none
def oQ (cl:Nat→List V→St→Option (V×St)):List AO→Tr V→St→Option (Tr V×St)
 | [],tm,σ=>some (tm,σ)
 | o::r,tm,σ=>match stepG cl o tm σ with
  | some (v,σ)=>match Bf tm o.dst v with|some tm=>oQ cl r tm σ|none=>none
  | none=>none
def qL.acts (o:qL):Bool:=match o.kind with|.a|.c=>true|_=>false
def qL.looks:qL→Bool
 | .load ..|.lookup ..=>true
 | _=>false
structure iD where
 i:Nat
 o:AO
 tm:Tr V
 v:V
 gt:Bool
 nm:Option Nat
structure Rs where
 i:Nat
 d:Option Nat
 v:V
def eqC:Cap→Cap→Bool
 | .ex k,.ex j=>Nat.beq k j
 | .opn,.opn=>true
 | .any,.any=>true
 | _,_=>false
def aaz:B→B→Bool
 | .int j m,.int k n=>decide (j=k) && eqI m n
 | .bool a,.bool b=>a == b
 | .str m,.str n=>decide (m=n)
 | .nat m,.nat n=>Nat.beq m n
 | .ptr b o,.ptr c p=>Nat.beq b c && Nat.beq o p
 | .Px,.Px=>true
 | .sl b o n c,.sl b' o' n' c'=>Nat.beq b b' && (Nat.beq o o' && (Nat.beq n n' && eqC c c'))
 | .aY,.aY=>true
 | .mp b,.mp c=>Nat.beq b c
 | _,_=>false
def Gt:List B→List B→Bool
 | [],[]=>true
 | x::l,y::r=>aaz x y && Gt l r
 | _,_=>false
def eqV:V→V→Bool
 | .c x,.c y=>aaz x y
 | .agg l,.agg r=>Gt l r
 | .fn f l,.fn g r=>Nat.beq f g && Gt l r
 | .Jl,.Jl=>true
 | .tnil,.tnil=>true
 | .cZ a r,.cZ b s=>eqV a b && eqV r s
 | _,_=>false
theorem alb {a b:Cap} (h:eqC a b=true):a=b:=by
 cases a <;> cases b <;> first|rfl|cases h|(rw [Nat.eq_of_beq_eq_true h])
theorem alc {a b:Int} (h:eqI a b=true):a=b:=by
 cases a <;> cases b <;> first|cases h|(rw [Nat.eq_of_beq_eq_true h])
theorem YG {a b:B} (h:aaz a b=true):a=b:=by
 cases a <;> cases b <;> simp only [aaz,Bool.and_eq_true,decide_eq_true_eq,Bool.false_eq_true,beq_iff_eq] at h
 ·rw [h.1,alc h.2]
 ·rw [h]
 ·rw [h]
 ·rw [Nat.eq_of_beq_eq_true h]
 ·rw [Nat.eq_of_beq_eq_true h.1,Nat.eq_of_beq_eq_true h.2]
 ·rfl
 ·rw [Nat.eq_of_beq_eq_true h.1,Nat.eq_of_beq_eq_true h.2.1,Nat.eq_of_beq_eq_true h.2.2.1,alb h.2.2.2]
 ·rfl
 ·rw [Nat.eq_of_beq_eq_true h]
theorem Hq : ∀ {l r:List B},Gt l r=true→l=r
 | [],[],_=>rfl
 | _::_,_::_,h=>by
  simp only [Gt,Bool.and_eq_true] at h
  rw [YG h.1,Hq h.2]
 | [],_::_,h=>by cases h
 | _::_,[],h=>by cases h
theorem Wy : ∀ {a b:V},eqV a b=true→a=b
 | .c _,.c _,h=>by rw [YG h]
 | .agg _,.agg _,h=>by rw [Hq h]
 | .fn _ _,.fn _ _,h=>by
  simp only [eqV,Bool.and_eq_true] at h
  rw [Nat.eq_of_beq_eq_true h.1,Hq h.2]
 | .Jl,.Jl,_=>rfl
 | .tnil,.tnil,_=>rfl
 | .cZ _ _,.cZ _ _,h=>by
  simp only [eqV,Bool.and_eq_true] at h
  rw [Wy h.1,Wy h.2]
def again (σ:St) (p:iD):Bool :=
 bif p.gt then (match p.o.op.kind with
 | .q=>bif p.o.op.looks then (match dB p.o.op p.tm σ with|some u=>eqV u p.v|none=>false) else true
 | .n=>(match kC p.o.op p.tm,p.nm with
  | some (l,_),some b=>(match σ.h.get b with|some ⟨c,none⟩=>Gt c l|_=>false)
  | _,_=>false)
 | _=>false) else true
def Ew (bf:Tr V) (res:List Rs):List Nat→Option (Tr V)
 | []=>some bf
 | u::us=>match Ew bf res us,res.find? (fun r=>Nat.beq r.i u) with
  | some tm,some r=>Bf tm r.d r.v
  | _,_=>none
def xW (bZ tm:Tr V):List Nat→Option (Tr V)
 | []=>some tm
 | t::os=>match xW bZ tm os with|some tm=>Bf tm (some t) (bZ.aj t)|none=>none
def Jq (bZ bf:Tr V) (res:List Rs) (us os:List Nat):Option (Tr V):=match Ew bf res us with|some tm=>xW bZ tm os|none=>none
def rJ (bZ bf:Tr V):List DO→St→List Rs→List iD→Option (St×List Rs×List iD)
 | [],σ,res,pd=>some (σ,res,pd)
 | x::l,σ,res,pd=>match Jq bZ bf res x.us x.os with
  | some tm=>(match gate x.o.g tm with
   | some true=>(match x.o.op.kind with
    | .q=>(match dB x.o.op tm σ with
     | some v=>rJ bZ bf l σ (⟨x.i,x.o.dst,v⟩::res) (⟨x.i,x.o,tm,v,true,none⟩::pd)
     | none=>none)
    | .n=>(match kC x.o.op tm with
     | some (c,vf)=>(match σ.new ⟨c,none⟩ with
      | some (b,σ)=>rJ bZ bf l σ (⟨x.i,x.o.dst,vf b⟩::res) (⟨x.i,x.o,tm,vf b,true,some b⟩::pd)
      | none=>none)
     | none=>none)
    | _=>none)
   | some false=>(match x.o.op.kind with
    | .q|.n=>rJ bZ bf l σ (⟨x.i,x.o.dst,.tnil⟩::res) (⟨x.i,x.o,tm,.tnil,false,none⟩::pd)
    | _=>none)
   | none=>none)
  | none=>none
def Ey (bf:Tr V):List Rs→Option (Tr V)
 | []=>some bf
 | r::l=>match Ey bf l with|some tm=>Bf tm r.d r.v|none=>none
def xC (tm:Tr V):List Nat→Option (Tr V)
 | []=>some tm
 | d::l=>match xC tm l with|some t=>Tr.put none 40 t d|none=>none
def yL (cl:Nat→List V→St→Option (V×St)) (pt:List (List Nat)) (bZ bf:Tr V):Dr→St→List Rs→List iD→Option (Tr V×St)
 | .fin qs,σ,res,pd=>(match rJ bZ bf qs σ res pd with
  | some (σ,res,pd)=>bif pd.all (again σ) then (match Ey bf res with|some tm=>some (tm,σ)|none=>none) else none
  | none=>none)
 | .act qs x r,σ,res,pd=>(match rJ bZ bf qs σ res pd with
  | some (σ,res,pd)=>bif pd.all (again σ) then (match Jq bZ bf res x.us x.os with
   | some tm=>(match stepG cl x.o tm σ with
    | some (v,σ')=>yL cl pt bZ bf r σ' (⟨x.i,x.o.dst,v⟩::res) (pd.filter fun p=>!((pt.getD x.i []).contains p.i))
    | none=>none)
   | none=>none) else none
  | none=>none)
def Dh:List V→Nat→Tr V→Option (Tr V)
 | [],_,t=>some t
 | v::r,i,t=>match Bf t (some i) v with|some t=>Dh r (i+1) t|none=>none
def mV (tm:Tr V) (σ:St):List (Nat×Option (Nat×Bool))→Option V
 | []=>some .tnil
 | (t,none)::r=>match tm.get t,mV tm σ r with|some v,some w=>some (.cZ v w)|_,_=>none
 | (t,some (n,g))::r=>match dB (.load n g (.t t)) tm σ,mV tm σ r with|some v,some w=>some (.cZ v w)|_,_=>none
def result (tm:Tr V) (σ:St) (l:List (Nat×Option (Nat×Bool))):Option V :=
 match mV tm σ l with
 | some (.cZ v .tnil)=>some v
 | r=>r
structure Env where
 fns:Nat→Option AF
 orc:Nat→List V→St→Option (V×St)
def SY (r:Option (Tr V×St)):Option (AX×Tr V×St):=match r with|some (tm,σ)=>some (.normal,tm,σ)|none=>none
def xDr (cl:Nat→List V→St→Option (V×St)) (d:Dr) (pt:List (List Nat)) (ds:List Nat) (tm:Tr V) (σ:St):Option (AX×Tr V×St) :=
 match xC tm ds with
 | some bf=>SY (yL cl pt tm bf d σ [] [])
 | none=>none
def ahg (k:Tr V→St→Option (AX×Tr V×St)) (r:Option (AX×Tr V×St)):Option (AX×Tr V×St) :=
 match r with
 | some (.normal,tm,σ)=>k tm σ
 | r=>r
def YH (k:AC→Option (AX×Tr V×St)) (v:V) (a b:AC):Option (AX×Tr V×St) :=
 match v with
 | .c (.bool t)=>k (bif t then a else b)
 | _=>none
def adh (i:Nat) (r:Option (AX×Tr V×St)):Option (AX×Tr V×St) :=
 match r with
 | some (.exit j,tm,σ)=>some (bif Nat.beq j i then .normal else .exit j,tm,σ)
 | r=>r
def aaA (res:List (Nat×Option (Nat×Bool))) (r:Option (AX×Tr V×St)):Option (V×St) :=
 match r with
 | some (.normal,tm,σ)|some (.ret,tm,σ)=>(match result tm σ res with|some v=>some (v,σ)|none=>none)
 | _=>none
def Di (orc:Option (V×St)) (fn:Option AF) (args:List V) (σ:St) (k:AC→Tr V→St→Option (AX×Tr V×St)):Option (V×St) :=
 match orc with
 | some v=>some v
 | none=>match fn with
  | some F=>match Dh args 0 .leaf with
   | some tm=>aaA F.res (k F.body tm σ)
   | none=>none
  | none=>none
mutual
def exec (E:Env):Nat→AC→Tr V→St→Option (AX×Tr V×St)
 | 0,_,_,_=>none
 | n+1,c,tm,σ=>match c with
  | .skip=>some (.normal,tm,σ)
  | .ops l=>SY (oQ (ig E n) l tm σ)
  | .drawn d pt ds=>xDr (ig E n) d pt ds tm σ
  | .seq a b=>ahg (exec E n b) (exec E n a tm σ)
  | .cond x a b=>YH (fun c=>exec E n c tm σ) (x.ev tm) a b
  | .block i a=>adh i (exec E n a tm σ)
  | .loop a=>ahg (exec E n (.loop a)) (exec E n a tm σ)
  | .exit i=>some (.exit i,tm,σ)
  | .ret=>some (.ret,tm,σ)
  | .bad=>none
def ig (E:Env):Nat→Nat→List V→St→Option (V×St)
 | 0,_,_,_=>none
 | n+1,f,args,σ=>Di (E.orc f args σ) (E.fns f) args σ (exec E n)
end
end
end Go.Proofs.Xe
