/- Blocks of n elements of sz cells that the call itself made: read and written. -/
import Derived.Test.YtjonjhcaniinaaaGreatDoorZ18
set_option linter.all false
namespace Go.Proofs.Xe
open Go.RowKit Go.Proofs.Ins
/-! ### Blocks of n elements -/
def bH:Nat→(Nat→List B)→List B
 | 0,_=>[]
 | n+1,G=>G 0 ++ bH n fun i=>G (i+1)
theorem TW {e:Nat} : ∀ {n:Nat} {G:Nat→List B} {i:Nat},(∀ j,(G j).length=e)→i<n→∃ r,(bH n G).drop (i*e)=G i ++ r
 | 0,_,_,_,h=>jb
 | n+1,G,0,_,_=>⟨bH n fun i=>G (i+1),by rw [Nat.zero_mul];rfl⟩
 | n+1,G,i+1,hG,h=>by
  obtain ⟨r,hr⟩:=TW (G:=fun i=>G (i+1)) (i:=i) (fun j=>hG (j+1)) (by omega:i<n)
  refine ⟨r,?_⟩
  show (G 0 ++ bH n fun i=>G (i+1)).drop _=_
  rw [Nat.succ_mul,Nat.add_comm,← hG 0,List.drop_length_add_append,hG 0]
  exact hr
theorem ES {e n i k m:Nat} {G:Nat→List B} (g:Bool) (hG : ∀ j,(G j).length=e) (h:i<n) (hk:k+m≤e) (hm:0<m):yw (bH n G) (i*e+k) m g=yw (G i) k m g:=by
 obtain ⟨r,hr⟩:=TW hG h
 have hd:(bH n G).drop (i*e+k)=(G i).drop k ++ r:=by
  rw [← List.drop_drop,hr,List.drop_append_of_le_length (by rw [hG];omega)]
 have hl:((G i).drop k).length=e - k:=by rw [List.length_drop,hG]
 unfold yw
 cases g with
 | true =>
  dsimp only
  rw [hd,List.take_append_of_le_length jb]
 | false =>
  dsimp only
  rw [hd]
  cases hx:(G i).drop k with
  | nil=>rw [hx] at hl;simp at hl;omega
  | cons x l=>rfl
theorem aeo : ∀ (p:List B) (l:List B) (o:Nat) (vs:List B),uT (p ++ l) (p.length+o) vs=match uT l o vs with|some r=>some (p ++ r)|none=>none
 | [],l,o,vs=>by
  rw [List.nil_append,List.length_nil,Nat.zero_add]
  cases uT l o vs <;> rfl
 | x::p,l,o,vs=>by
  rw [List.cons_append,List.length_cons,show p.length+1+o=(p.length+o)+1 by omega,uT,aeo p l o vs]
  cases uT l o vs <;> rfl
theorem YU : ∀ (p:List B) (l:List B) (o:Nat) (vs:List B),o+vs.length≤p.length→uT (p ++ l) o vs=match uT p o vs with|some r=>some (r ++ l)|none=>none
 | p,l,0,vs,h=>by
  unfold uT
  have h:vs.length≤p.length:=jb
  rw [kX h,kX (show vs.length≤(p ++ l).length by rw [List.length_append];omega)]
  dsimp only [cond_true]
  rw [List.drop_append_of_le_length h,List.append_assoc]
 | [],l,o+1,vs,h=>by simp at h
 | x::p,l,o+1,vs,h=>by
  rw [List.cons_append,uT,uT,YU p l o vs (by simp only [List.length_cons] at h;omega)]
  cases uT p o vs <;> rfl
def jd (G:Nat→List B) (i:Nat) (r:List B):Nat→List B:=fun j=>if j=i then r else G j
theorem yU {e k:Nat} {vs:List B} : ∀ {n i:Nat} {G:Nat→List B},(∀ j,(G j).length=e)→i<n→k+vs.length≤e→uT (bH n G) (i*e+k) vs=match uT (G i) k vs with|some r=>some (bH n (jd G i r))|none=>none
 | 0,_,_,_,h,_=>jb
 | n+1,0,G,hG,_,hk=>by
  rw [Nat.zero_mul,Nat.zero_add]
  show uT (G 0 ++ _) k vs=_
  rw [YU _ _ _ _ (by rw [hG];omega)]
  cases uT (G 0) k vs <;> rfl
 | n+1,i+1,G,hG,h,hk=>by
  show uT (G 0 ++ bH n fun i=>G (i+1)) _ vs=_
  rw [show (i+1)*e+k=(G 0).length+(i*e+k) by rw [hG,Nat.succ_mul];omega,aeo,yU (fun j=>hG (j+1)) jb hk]
  cases uT (G (i+1)) k vs with
  | none=>rfl
  | some r =>
   show some _=some _
   congr 1
   show G 0 ++ _=jd G (i+1) r 0 ++ _
   congr 2
   funext j
   unfold jd
   simp only [Nat.add_right_cancel_iff]
theorem dA : ∀ {n:Nat} {G H:Nat→List B},(∀ i,i<n→G i=H i)→bH n G=bH n H
 | 0,_,_,_=>rfl
 | n+1,G,H,h=>by
  unfold bH
  rw [h 0 jb,dA fun i hi=>h (i+1) jb]
theorem P7 (z:List B) : ∀ n,rep z n=bH n fun _=>z
 | 0=>rfl
 | n+1=>by unfold rep bH;rw [P7 z n]
theorem jF : ∀ (n:Nat) (G:Nat→List B) (r:List B),bH n G ++ r=bH (n+1) (jd G n r)
 | 0,G,r=>by unfold bH jd;simp [bH]
 | n+1,G,r=>by
  rw [bH,List.append_assoc,jF n _ r]
  show _=jd G (n+1) r 0 ++ bH (n+1) _
  congr 2
  funext j
  unfold jd
  simp only [Nat.add_right_cancel_iff]
theorem pW {e:Nat} : ∀ {n:Nat} {G:Nat→List B},(∀ j,(G j).length=e)→(bH n G).length=n*e
 | 0,_,_=>by simp [bH]
 | n+1,G,h=>by
  rw [bH,List.length_append,h,pW fun j=>h (j+1),Nat.succ_mul];omega
theorem Bq {h:Tr Bk} {b o n:Nat} {cs:List B} (e:ld h b o n true=some (.agg cs)) (k m:Nat) (g:Bool) (hk:k+m≤n) (hm:0<m):ld h b (o+k) m g=yw cs k m g:=by
 unfold ld at e ⊢
 cases hb:h b with
 | none=>rw [hb] at e;cases e
 | some bk =>
  rw [hb] at e
  dsimp only at e ⊢
  cases hr:bk.rd with
  | false=>rw [hr] at e;cases e
  | true =>
   rw [hr] at e
   simp only [cond_true] at e ⊢
   unfold yw at e
   dsimp only at e
   cases hx:(Nat.beq ((bk.cells.drop o).take n).length n && ((bk.cells.drop o).take n).all B.kn) with
   | false=>rw [hx] at e;cases e
   | true =>
    rw [hx] at e
    cases e
    rw [Bool.and_eq_true] at hx
    have hl:=Nat.eq_of_beq_eq_true hx.1
    rw [List.length_take] at hl
    unfold yw
    cases g with
    | true =>
     dsimp only
     rw [List.drop_take,List.take_take,List.drop_drop,Nat.min_eq_left jb]
    | false =>
     dsimp only
     rw [List.drop_take,List.drop_drop]
     have hd:n - k=(n - k - 1)+1:=jb
     rw [hd]
     cases (bk.cells.drop (o+k)) <;> rfl
theorem Du {h:Tr Bk} {b o n:Nat} {cs:List B} (e:ld h b o n true=some (.agg cs)) (m:Nat) (g:Bool) (hk:m≤n) (hm:0<m):ld h b o m g=yw cs 0 m g:=Bq e 0 m g jb hm
/-! ### aou; single cells -/
def jl (q:Rat):List B:=[.bool (rn q),.str (rs q),.str (rd q)]
def dO (n:Nat) (f:Nat→Rat):List B:=bH n fun i=>jl (f i)
def aK {α:Type} (f:Nat→α) (i:Nat) (q:α):Nat→α:=fun j=>if j=i then q else f j
theorem YV (n:Nat) (f:Nat→Rat) (i:Nat) (h:i<n):yw (dO n f) (i*3) 3 true=some (.agg [.bool (rn (f i)),.str (rs (f i)),.str (rd (f i))]):=by
 unfold dO
 have:=ES (e:=3) (k:=0) (m:=3) (G:=fun i=>jl (f i)) true (fun _=>rfl) h jj jj
 rw [Nat.add_zero] at this
 rw [this];rfl
theorem ait (n:Nat) (f:Nat→Rat) (i:Nat) (q:Rat) (h:i<n):uT (dO n f) (i*3) [.bool (rn q),.str (rs q),.str (rd q)]=some (dO n (aK f i q)):=by
 unfold dO
 have:=yU (e:=3) (k:=0) (vs:=jl q) (G:=fun i=>jl (f i)) (fun _=>rfl) h (Nat.le_refl 3)
 rw [Nat.add_zero] at this
 show uT _ _ (jl q)=_
 rw [this]
 show some _=some _
 congr 2
 funext j
 unfold jd aK
 split <;> rfl
theorem gB {n:Nat} {f g:Nat→Rat} (h : ∀ i,i<n→f i=g i):dO n f=dO n g:=dA fun i hi=>by rw [h i hi]
theorem aep (n:Nat):rep [.bool (rn 0),.str (rs 0),.str (rd 0)] n=dO n fun _=>0:=P7 _ n
theorem abj (n:Nat) (f:Nat→Rat) (q:Rat):dO n f ++ [.bool (rn q),.str (rs q),.str (rd q)]=dO (n+1) (aK f n q):=by
 unfold dO
 rw [show [B.bool (rn q),.str (rs q),.str (rd q)]=jl q from rfl,jF]
 congr 1
 funext j
 unfold jd aK
 split <;> rfl
theorem TY (n:Nat) (f:Nat→Rat):(dO n f).length=n*3:=pW fun _=>rfl
def ones (n:Nat) (g:Nat→B):List B:=bH n fun i=>[g i]
theorem aiu (n:Nat) (g:Nat→B) (i:Nat) (h:i<n):yw (ones n g) (i*1) 1 false=bif (g i).kn then some (.c (g i)) else none:=by
 unfold ones
 have:=ES (e:=1) (k:=0) (m:=1) (G:=fun i=>[g i]) false (fun _=>rfl) h jj jj
 rw [Nat.add_zero] at this
 rw [this];rfl
theorem aiv (n:Nat) (g:Nat→B) (i:Nat) (x:B) (h:i<n):uT (ones n g) (i*1) [x]=some (ones n (aK g i x)):=by
 unfold ones
 have:=yU (e:=1) (k:=0) (vs:=[x]) (G:=fun i=>[g i]) (fun _=>rfl) h (Nat.le_refl 1)
 rw [Nat.add_zero] at this
 rw [this]
 show some _=some _
 congr 2
 funext j
 unfold jd aK
 split <;> rfl
theorem JQ {n:Nat} {f g:Nat→B} (h : ∀ i,i<n→f i=g i):ones n f=ones n g:=dA fun i hi=>by rw [h i hi]
theorem aer (x:B) (n:Nat):rep [x] n=ones n fun _=>x:=P7 _ n
theorem abk (n:Nat) (g:Nat→B) (x:B):ones n g ++ [x]=ones (n+1) (aK g n x):=by
 unfold ones
 rw [jF]
 congr 1
 funext j
 unfold jd aK
 split <;> rfl
theorem Ua (n:Nat) (g:Nat→B):(ones n g).length=n*1:=pW fun _=>rfl
theorem aH {α:Type} (f:Nat→α) (i:Nat) (q:α):aK f i q i=q:=if_pos rfl
theorem aJ {α:Type} (f:Nat→α) (i j:Nat) (q:α) (h:j≠i):aK f i q j=f j:=if_neg h
/-! ### Slices of slices -/
def Ub : Option V→Nat→Option Nat
 | none,d=>some d
 | some v,_=>Df v
theorem aes (b:Option O) (tm:Tr V) (d:Nat):SX b tm d=Ub (b.map (·.ev tm)) d:=by cases b <;> rfl
def WZ (fU:Nat) (x:V) (lo hi mx:Option V):Option V :=
 match x with
 | .c (.sl b o n c) =>
  match Ub lo 0,Ub hi n with
  | some l,some h=>bif Nat.ble l h && Nat.ble h n then
    match mx with
    | none=>(match c with
     | .ex k=>bif Nat.blt l k then some (.c (.sl b (o+l*fU) (h - l) (.ex (k - l)))) else some (.c (.sl b o 0 .any))
     | .opn=>bif Nat.beq l 0 then some (.c (.sl b o h .opn)) else bif Nat.blt l n then some (.c (.sl b (o+l*fU) (h - l) .any)) else some (.c (.sl b o 0 .any))
     | .any=>bif Nat.blt l n then some (.c (.sl b (o+l*fU) (h - l) .any)) else some (.c (.sl b o 0 .any)))
    | some y=>match Df y with
     | some q=>bif Nat.ble h q && Nat.ble q n then bif Nat.beq l 0 then some (.c (.sl b o h (bif Nat.beq n 0 then .any else .ex q))) else none else none
     | none=>none
   else none
  | _,_=>none
 | .c .aY=>match Ub lo 0,Ub hi 0 with
  | some 0,some 0=>(match mx with|none=>some (.c .aY)|some y=>match Df y with|some 0=>some (.c .aY)|_=>none)
  | _,_=>none
 | _=>none
theorem Uc (fU:Nat) (x:O) (lo hi mx:Option O) (tm:Tr V):Jp fU x lo hi mx tm=WZ fU (x.ev tm) (lo.map (·.ev tm)) (hi.map (·.ev tm)) (mx.map (·.ev tm)):=by
 unfold Jp WZ
 simp only [iY,aes]
 cases mx <;> rfl
theorem aiw (E:Env) (tm:Tr V) (σ:St) (K:V→St→Prop) (fU:Nat) (x:O) (lo hi mx:Option O):wpOp E (.slice fU x lo hi mx) tm σ K=EP (WZ fU (x.ev tm) (lo.map (·.ev tm)) (hi.map (·.ev tm)) (mx.map (·.ev tm))) fun v=>K v σ:=by
 rw [iL _ _ _ _ (by rfl) fun _ _ h=>by cases h]
 show EP (Jp fU x lo hi mx tm) _=_
 rw [Uc]
def aix:B→Prop
 | .sl _ _ n (.ex k)=>n≤k
 | _=>True
theorem amy {v:B} {n h:Nat} (hc:aix v) (hv:(n=0∧v = .aY)∨∃ b o c,v = .sl b o n c∧0<n) (hh:h≤n) (fU:Nat) : ∃ v',WZ fU (.c v) none (some (.c (.int .i64 (.ofNat h)))) none=some (.c v')∧aix v'∧((n=0∧v' = .aY)∨∃ b o c c',v = .sl b o n c∧v' = .sl b o h c'):=by
 rcases hv with ⟨rfl,rfl⟩|⟨b,o,c,rfl,hn⟩
 ·have:h=0:=by omega
  subst this
  exact ⟨.aY,rfl,trivial,.inl ⟨rfl,rfl⟩⟩
 ·cases c with
  | ex k =>
   have hc:n≤k:=hc
   refine ⟨.sl b o h (.ex k),?_,by show h≤k;omega,.inr ⟨b,o,_,_,rfl,rfl⟩⟩
   unfold WZ Ub Df
   simp only [kX hh,kX (Nat.zero_le h),FZ (show 0<k by omega),Bool.and_self,cond_true,Nat.zero_mul,Nat.add_zero,Nat.sub_zero]
  | opn =>
   refine ⟨.sl b o h .opn,?_,trivial,.inr ⟨b,o,_,_,rfl,rfl⟩⟩
   unfold WZ Ub Df
   simp only [kX hh,kX (Nat.zero_le h),YP,Bool.and_self,cond_true]
  | any =>
   refine ⟨.sl b o h .any,?_,trivial,.inr ⟨b,o,_,_,rfl,rfl⟩⟩
   unfold WZ Ub Df
   simp only [kX hh,kX (Nat.zero_le h),FZ hn,Bool.and_self,cond_true,Nat.zero_mul,Nat.add_zero,Nat.sub_zero]
attribute [go_sem] aiw Option.map_some Option.map_none
attribute [go_sem] YV ait aep aiu aiv aer
/-! ### Frames with exceptions -/
structure fE (ex:List Nat) (σ σ' : St):Prop where
 le:σ.ah≤σ'.ah
 wf:WF σ'
 old : ∀ b,b<σ.ah→¬ b∈ex→σ'.h b=σ.h b
theorem Fr.ex {σ σ' : St} (h:Fr σ σ') (ex:List Nat):fE ex σ σ':=⟨h.le,h.wf,fun b hb _=>h.old b hb⟩
theorem fE.refl {σ:St} {ex:List Nat} (h:WF σ):fE ex σ σ:=(Fr.refl h).ex ex
theorem fE.trans {ex:List Nat} {σ σ' σ'' : St} (h:fE ex σ σ') (h' : fE ex σ' σ''):fE ex σ σ'':=⟨Nat.le_trans h.le h'.le,h'.wf,fun b hb hx=>(h'.old b (Nat.lt_of_lt_of_le hb h.le) hx).trans (h.old b hb hx)⟩
theorem fE.to {ex:List Nat} {σ0 σ σ' : St} (h:Fr σ0 σ) (he:fE ex σ σ') (hx : ∀ b∈ex,σ0.ah≤b):Fr σ0 σ':=⟨Nat.le_trans h.le he.le,he.wf,fun b hb=>(he.old b (Nat.lt_of_lt_of_le hb h.le) fun hm=>by have:=hx b hm;omega).trans (h.old b hb)⟩
theorem fE.to' {ex ex' : List Nat} {σ0 σ σ' : St} (h:fE ex' σ0 σ) (he:fE ex σ σ') (hx : ∀ b∈ex,σ0.ah≤b∨b∈ex'):fE ex' σ0 σ':=⟨Nat.le_trans h.le he.le,he.wf,fun b hb hn=>(he.old b (Nat.lt_of_lt_of_le hb h.le) fun hm=>by rcases hx b hm with h|h;omega;exact hn h).trans (h.old b hb hn)⟩
theorem fE.new1 {ex:List Nat} {σ:St} {h:Tr Bk} {n:Nat} {k:Bk} (hf:fE ex σ ⟨h,n⟩):fE ex σ ⟨hset h n k,n+1⟩ :=
 ⟨Nat.le_succ_of_le hf.le,fun b hb=>by
  have hb:n+1≤b:=hb
  show hset h n k b=none
  rw [ak _ _ _ _ (by omega)];exact hf.wf b (show n≤b by omega),fun b hb hx=>by
  show hset h n k b=_
  have:σ.ah≤n:=hf.le
  rw [ak _ _ _ _ (by omega)];exact hf.old b hb hx⟩
theorem fE.set1 {ex:List Nat} {σ:St} {h:Tr Bk} {n b:Nat} {k:Bk} (hf:fE ex σ ⟨h,n⟩) (hb:σ.ah≤b∨b∈ex) (hb2:b<n):fE ex σ ⟨hset h b k,n⟩ :=
 ⟨hf.le,fun j hj=>by
  have hj:n≤j:=hj
  show hset h b k j=none
  rw [ak _ _ _ _ jb];exact hf.wf j hj,fun j hj hx=>by
  show hset h b k j=_
  rw [ak _ _ _ _ (fun e=>by subst e;rcases hb with hb|hb;omega;exact hx hb)];exact hf.old j hj hx⟩
theorem fE.ld {ex:List Nat} {σ σ' : St} (h:WF σ) (hf:fE ex σ σ') {b o n:Nat} {g:Bool} {v:V} (hx : ¬ b∈ex) (hb:Xe.ld σ.h b o n g=some v):Xe.ld σ'.h b o n g=some v:=by
 have hlt:=h.eU hb
 unfold Xe.ld at hb ⊢
 rw [hf.old b hlt hx];exact hb
theorem fE.get {ex:List Nat} {σ σ' : St} (h:WF σ) (hf:fE ex σ σ') {b:Nat} {k:Bk} (hx : ¬ b∈ex) (hb:σ.h b=some k):σ'.h b=some k:=by rw [hf.old b (h.lt hb) hx];exact hb
/-! ### Numbers with a common denominator -/
def uK:Nat:=1000
def dK:Nat:=29000000
def eK:Nat:=29002000
def Zk (D k:Nat) (q:Rat):Prop:=∃ a:Int,q=(a:Rat)/(D:Rat)∧a.natAbs≤k*(D*256 ^ uK)
def Ae (D:Nat):Prop:=0<D∧D<256 ^ dK
theorem aiy {D k u d s a:Nat} (hD:D<256 ^ d) (hk:k≤256 ^ u) (hs:u+d+u≤s) (ha:a≤k*(D*256 ^ u)):a<256 ^ s:=by
 have h1:(256:Nat) ^ (u+d+u)≤256 ^ s:=Nat.pow_le_pow_right jj hs
 refine Nat.lt_of_le_of_lt ha (Nat.lt_of_lt_of_le ?_ h1)
 rw [Nat.pow_add,Nat.pow_add,Nat.mul_assoc]
 exact Nat.lt_of_le_of_lt (Nat.mul_le_mul_right _ hk) (Nat.mul_lt_mul_of_pos_left (Nat.mul_lt_mul_of_pos_right hD (Nat.pow_pos jj)) (Nat.pow_pos jj))
theorem Sm.int {k:Nat} {a:Int} (hk:k≠0) (h:a.natAbs<256 ^ k):Sm k (a:Rat):=⟨by show (a:Rat).num.natAbs<_;rwa [Rat.num_intCast],by rw [Rat.den_intCast];exact Nat.one_lt_pow hk jj⟩
section
variable {D k l:Nat} {p q:Rat}
theorem Ae.ne (h:Ae D):(D:Rat)≠0:=by
 have:=h.1
 intro e
 have:(D:Rat)=((0:Nat):Rat):=e
 have:=Rat.natCast_inj.mp this
 omega
theorem Zk.int {a:Int} (hD:Ae D) (hk:k≤256 ^ uK) (h:a.natAbs≤k*(D*256 ^ uK)):Sm eK (a:Rat):=Sm.int jj (aiy hD.2 hk jj h)
theorem Zk.sz (h:Zk D k q) (hD:Ae D) (hk:k≤256 ^ uK):Sz q:=by
 obtain ⟨a,rfl,h2⟩:=h
 have h3:Sm dK ((D:Int):Rat):=Sm.int jj hD.2
 exact ((Zk.int hD hk h2).div h3 hD.ne).mono jj
theorem Zk.apW (h:Zk D k p) (h' : Zk D l q) (hD:Ae D) (hk:k≤256 ^ uK) (hl:l≤256 ^ uK) (h0:q≠0):Sz (p/q):=by
 obtain ⟨a,rfl,h2⟩:=h
 obtain ⟨b,rfl,h3⟩:=h'
 have hb:(b:Rat)≠0:=fun e=>h0 (by rw [e];grind)
 have e:(a:Rat)/(D:Rat)/((b:Rat)/(D:Rat))=(a:Rat)/(b:Rat):=by
  have:=hD.ne
  grind
 rw [e]
 exact ((Zk.int hD hk h2).div (Zk.int hD hl h3) hb).mono jj
theorem Zk.mono (h:Zk D k q) (hkl:k≤l):Zk D l q:=by
 obtain ⟨a,e,h2⟩:=h
 exact ⟨a,e,Nat.le_trans h2 (Nat.mul_le_mul_right _ hkl)⟩
theorem Zk.add (h:Zk D k p) (h' : Zk D l q):Zk D (k+l) (p+q):=by
 obtain ⟨a,rfl,h2⟩:=h
 obtain ⟨b,rfl,h3⟩:=h'
 refine ⟨a+b,?_,?_⟩
 ·rw [Rat.intCast_add];grind
 ·rw [Nat.add_mul];omega
theorem Zk.neg (h:Zk D k p):Zk D k (-p):=by
 obtain ⟨a,rfl,h2⟩:=h
 refine ⟨-a,?_,by rw [Int.natAbs_neg];exact h2⟩
 rw [Rat.intCast_neg];grind
theorem Zk.sub (h:Zk D k p) (h' : Zk D l q):Zk D (k+l) (p - q):=by
 rw [Rat.sub_eq_add_neg]
 exact h.add h'.neg
theorem Zk.zero:Zk D k 0:=⟨0,by grind,by simp⟩
end
noncomputable def hdel (h:Tr Bk) (b:Nat):Tr Bk:=h.set b none
theorem P8 (h:Tr Bk) (b j:Nat):hdel h b j=if j=b then none else h j:=Tr.lN h b none j
theorem gI (h:Tr Bk) (b j:Nat) (e:j≠b):hdel h b j=h j:=by rw [P8,if_neg e]
theorem amA (h:Tr Bk) (b j o n:Nat) (g:Bool) (e:j≠b):ld (hdel h b) j o n g=ld h j o n g:=by unfold ld;rw [gI _ _ _ e]
def aeu (o:Option (V×St)) (K:V→St→Prop):Prop:=match o with|some (v,σ)=>K v σ|none=>False
@[congr] theorem amB {o o' : Option (V×St)} {K:V→St→Prop} (h:o=o'):aeu o K=aeu o' K:=by rw [h]
theorem abl (v:V) (σ:St) (K:V→St→Prop):aeu (some (v,σ)) K=K v σ:=rfl
noncomputable def Ud (ty fU bytes:Nat) (s x:V) (σ:St):Option (V×St) :=
 match x with
 | .c .aY=>oP ty fU bytes s 0 [] σ
 | .c (.sl b o m _)=>bif Nat.beq m 0 then oP ty fU bytes s 0 [] σ else match σ.h b with
  | some k=>bif k.rd && (Nat.beq ((k.cells.drop o).take (m*fU)).length (m*fU) && ((k.cells.drop o).take (m*fU)).all B.kn) then oP ty fU bytes s m ((k.cells.drop o).take (m*fU)) σ else none
  | none=>none
 | _=>none
theorem apX (E:Env) (tm:Tr V) (σ:St) (K:V→St→Prop) (ty fU bytes:Nat) (s x:O):wpOp E (.app ty fU bytes s x) tm σ K=aeu (Ud ty fU bytes (s.ev tm) (x.ev tm) σ) K:=by
 unfold wpOp lZ
 simp only [qL.kind]
 show (match qw (.app ty fU bytes s x) tm σ with|some (v,σ')=>K v σ'|none=>False)=_
 have e:qw (.app ty fU bytes s x) tm σ=Ud ty fU bytes (s.ev tm) (x.ev tm) σ:=by
  unfold qw Ud
  rfl
 rw [e]
 unfold aeu
 cases Ud ty fU bytes (s.ev tm) (x.ev tm) σ <;> rfl
theorem abm (ty fU bytes:Nat) (s:V) (σ:St):Ud ty fU bytes s (.c .aY) σ=oP ty fU bytes s 0 [] σ:=rfl
theorem aev (ty fU bytes:Nat) (s:V) (b o:Nat) (c:Cap) (σ:St):Ud ty fU bytes s (.c (.sl b o 0 c)) σ=oP ty fU bytes s 0 [] σ:=rfl
theorem aiz (ty fU bytes:Nat) (s:V) (b o m:Nat) (c:Cap) (σ:St) (hm:0<m):Ud ty fU bytes s (.c (.sl b o m c)) σ=match σ.h b with
  | some k=>bif k.rd && (Nat.beq ((k.cells.drop o).take (m*fU)).length (m*fU) && ((k.cells.drop o).take (m*fU)).all B.kn) then oP ty fU bytes s m ((k.cells.drop o).take (m*fU)) σ else none
  | none=>none:=by
 unfold Ud
 dsimp only
 rw [NS (by omega:m≠0)];rfl
variable {ty fU bytes n m:Nat} {news:List B} {h:Tr Bk} {nx b:Nat}
theorem NT (h1:0<m) (h2:0<fU) (h3:m*bytes≤140737488355328) (h4:m≤1073741824):oP ty fU bytes (.c .aY) m news ⟨h,nx⟩=some (.c (.sl nx 0 m .opn),⟨hset h nx ⟨news,some (fU,ty)⟩,nx+1⟩):=by
 unfold oP
 dsimp only
 rw [NS (by omega:m≠0),FZ h2,kX h3,kX h4]
 simp only [Bool.and_self,cond_true,cond_false,kD]
noncomputable def apK (ty fU bytes n m:Nat) (news:List B) (b:Nat) (h:Tr Bk) (nx:Nat) (k:Option Bk):Option (V×St):=match k with
 | some ⟨cells,some (e,t)⟩=>bif Nat.blt 0 e && Nat.beq 0 0 && (Nat.beq e fU && (Nat.beq t ty && (Nat.ble ((n+m)*bytes) 140737488355328 && (Nat.ble (n+m) 1073741824 && Nat.ble (n*fU) cells.length)))) then
   some (.c (.sl nx 0 (n+m) .opn),⟨hset (hdel h b) nx ⟨cells.take (n*fU) ++ news,some (fU,ty)⟩,nx+1⟩) else none
 | _=>none
theorem aew (h1:0<m):oP ty fU bytes (.c (.sl b 0 n .opn)) m news ⟨h,nx⟩=apK ty fU bytes n m news b h nx (h b):=by
 unfold oP apK
 dsimp only
 rw [NS (by omega:m≠0)]
 simp only [cond_false]
 split
 ·next cells e t hk =>
  rw [hk]
  dsimp only
  cases (Nat.blt 0 e && Nat.beq 0 0 && (Nat.beq e fU && (Nat.beq t ty && (Nat.ble ((n+m)*bytes) 140737488355328 && (Nat.ble (n+m) 1073741824 && Nat.ble (n*fU) cells.length))))) with
  | false=>rfl
  | true =>
   simp only [cond_true,Tr.put,kD,iY]
   rfl
 ·next hne =>
  split
  ·next cells e t hk=>exact (hne cells e t hk).elim
  ·rfl
theorem Ue {cells:List B} (h2:0<fU) (h3:(n+m)*bytes≤140737488355328) (h4:n+m≤1073741824) (h5:n*fU≤cells.length):apK ty fU bytes n m news b h nx (some ⟨cells,some (fU,ty)⟩)=some (.c (.sl nx 0 (n+m) .opn),⟨hset (hdel h b) nx ⟨cells.take (n*fU) ++ news,some (fU,ty)⟩,nx+1⟩):=by
 unfold apK
 dsimp only
 rw [FZ h2,kX h3,kX h4,kX h5]
 simp
theorem abn (b o n:Nat) (σ:St):oP ty fU bytes (.c (.sl b o n (.ex n))) 0 news σ=some (.c (.sl b o n (.ex n)),σ):=by
 unfold oP
 dsimp only
 rw [kX (Nat.le_refl n)];rfl
theorem aex (b o n:Nat) (σ:St):oP ty fU bytes (.c (.sl b o n .any)) 0 news σ=some (.c (.sl b o n .any),σ):=rfl
theorem W9 (σ:St) (h1:0<m) (h2:0<fU) (h3:m*bytes≤140737488355328) (h4:m≤1073741824):oP ty fU bytes (.c .aY) m news σ=some (.c (.sl σ.ah 0 m .opn),⟨hset σ.h σ.ah ⟨news,some (fU,ty)⟩,σ.ah+1⟩):=NT h1 h2 h3 h4
theorem Xa (σ:St):oP ty fU bytes (.c .aY) 0 news σ=some (.c .aY,σ):=rfl
theorem NU (σ:St) (h1:0<m):oP ty fU bytes (.c (.sl b 0 n .opn)) m news σ=apK ty fU bytes n m news b σ.h σ.ah (σ.h b):=aew h1
theorem Xb {σ:St} (hb:σ.h b=some ⟨[],none⟩) (h1:0<m) (h2:0<fU) (h3:m*bytes≤140737488355328) (h4:m≤1073741824):oP ty fU bytes (.c (.sl b 0 0 (.ex 0))) m news σ=some (.c (.sl σ.ah 0 m .opn),⟨hset σ.h σ.ah ⟨news,some (fU,ty)⟩,σ.ah+1⟩):=by
 unfold oP
 dsimp only
 rw [NS (by omega:m≠0),hb]
 simp only [cond_false,Bk.rd,Nat.zero_mul,List.take_zero,List.all_nil,FZ h2,Nat.zero_add,FZ h1,kX h3,kX h4,List.length_nil,Bool.and_self,cond_true,kD,iY,List.drop_zero,List.nil_append,Bool.true_and,Nat.add_zero]
 rfl
theorem Fr.Gv {σ:St} {h:Tr Bk} {n b:Nat} (hf:Fr σ ⟨h,n⟩) (h1:σ.ah≤b):Fr σ ⟨hdel h b,n⟩ :=
 ⟨hf.le,fun j hj=>by
  show hdel h b j=none
  rw [P8]
  split
  ·rfl
  ·exact hf.wf j hj,fun j hj=>by
  show hdel h b j=_
  rw [gI _ _ _ jb];exact hf.old j hj⟩
theorem fE.Gv {ex:List Nat} {σ:St} {h:Tr Bk} {n b:Nat} (hf:fE ex σ ⟨h,n⟩) (h1:σ.ah≤b∨b∈ex):fE ex σ ⟨hdel h b,n⟩ :=
 ⟨hf.le,fun j hj=>by
  show hdel h b j=none
  rw [P8]
  split
  ·rfl
  ·exact hf.wf j hj,fun j hj hx=>by
  show hdel h b j=_
  rw [gI _ _ _ (fun e=>by subst e;rcases h1 with h|h;omega;exact hx h)];exact hf.old j hj hx⟩
/-! ### Lists of one's own, empty or not, in one form -/
def aT:Nat→Nat→B
 | 0,_=>.aY
 | n+1,b=>.sl b 0 (n+1) .opn
noncomputable def yV:Nat→Tr Bk→Nat→Tr Bk
 | 0,h,_=>h
 | _+1,h,b=>hdel h b
noncomputable def uz:Nat→Tr Bk→Nat→Option Bk
 | 0,_,_=>none
 | _+1,h,b=>h b
def gF (n:Nat) (G:Nat→List B) (e ty:Nat):Option Bk:=match n with
 | 0=>none
 | n+1=>some ⟨bH (n+1) G,some (e,ty)⟩
def LG (G:Nat→List B) (e:Nat):Prop:=∀ j,(G j).length=e
noncomputable def apF (ty fU bytes n m:Nat) (news:List B) (b:Nat) (h:Tr Bk) (nx:Nat) (k:Option Bk):Option (V×St):=match n with
 | 0=>oP ty fU bytes (.c .aY) m news ⟨h,nx⟩
 | n+1=>apK ty fU bytes (n+1) m news b h nx k
theorem Hu (n b:Nat):(aT n b).kn=true:=by cases n <;> rfl
theorem aey (n b:Nat):lenV (.c (aT n b))=some (.c (.int .i64 (.ofNat n))):=by cases n <;> rfl
theorem gJ (n:Nat) (h:Tr Bk) (b j:Nat) (e:n=0∨j≠b):yV n h b j=h j:=by
 cases n with
 | zero=>rfl
 | succ n=>exact gI _ _ _ jb
theorem aiA (k:Nat) (h:Tr Bk) (b j o n:Nat) (g:Bool) (e:k=0∨j≠b):ld (yV k h b) j o n g=ld h j o n g:=by unfold ld;rw [gJ _ _ _ _ e]
theorem rM {n:Nat} {h h' : Tr Bk} {b:Nat} (e:n=0∨h' b=h b):uz n h' b=uz n h b:=by
 cases n with
 | zero=>rfl
 | succ n=>exact e.resolve_left jb
theorem aez (n:Nat) (h:Tr Bk) (j b:Nat) (k:Bk) (e:n=0∨b≠j):uz n (hset h j k) b=uz n h b:=rM (by
 rcases e with e|e
 ·exact .inl e
 ·exact .inr (ak _ _ _ _ e))
theorem aeA (σ:St) (h1:0<m):oP ty fU bytes (.c (aT n b)) m news σ=apF ty fU bytes n m news b σ.h σ.ah (uz n σ.h b):=by
 cases n with
 | zero=>rfl
 | succ n=>exact NU σ h1
theorem amC {G:Nat→List B} (h1:0<m) (h2:0<fU) (h3:(n+m)*bytes≤140737488355328) (h4:n+m≤1073741824) (hG:LG G fU):apF ty fU bytes n m news b h nx (gF n G fU ty)=some (.c (.sl nx 0 (n+m) .opn),⟨hset (yV n h b) nx ⟨bH n G ++ news,some (fU,ty)⟩,nx+1⟩):=by
 cases n with
 | zero =>
  rw [Nat.zero_add] at h3 h4 ⊢
  exact NT h1 h2 h3 h4
 | succ n =>
  show apK ty fU bytes (n+1) m news b h nx (some ⟨bH (n+1) G,some (fU,ty)⟩)=_
  rw [Ue h2 h3 h4 (by rw [pW hG];exact jp),← pW (n:=n+1) hG,List.take_length]
  rfl
theorem Fr.yV {σ:St} {h:Tr Bk} {n b k:Nat} (hf:Fr σ ⟨h,n⟩) (h1:k=0∨σ.ah≤b):Fr σ ⟨Xe.yV k h b,n⟩:=by
 cases k with
 | zero=>exact hf
 | succ k=>exact Fr.Gv hf jb
theorem fE.yV {ex:List Nat} {σ:St} {h:Tr Bk} {n b k:Nat} (hf:fE ex σ ⟨h,n⟩) (h1:σ.ah≤b∨b∈ex):fE ex σ ⟨Xe.yV k h b,n⟩:=by
 cases k with
 | zero=>exact hf
 | succ k=>exact fE.Gv hf h1
attribute [go_sem] Hu aey gJ aiA aez aeA amC
theorem Fr.up {σ σ' : St} {n:Nat} (hf:Fr σ σ') (hn:σ'.ah≤n):Fr σ ⟨σ'.h,n⟩:=⟨Nat.le_trans hf.le hn,fun b hb=>hf.wf b (Nat.le_trans hn hb),hf.old⟩
theorem Fr.MB {σ:St} {h:Tr Bk} {n n' : Nat} {k:Bk} (hf:Fr σ ⟨h,n⟩) (hn:n<n'):Fr σ ⟨hset h n k,n'⟩:=Fr.up (Fr.new1 hf) hn
theorem fr {σ σ' : St} (h:Fr σ σ':=by repeat (first|assumption|exact Fr.refl (by assumption)|exact Fr.up (by assumption) (by first|omega|(dsimp only;omega))|exact Fr.up (Fr.refl (by assumption)) (by first|omega|(dsimp only;omega))|refine Fr.set1 ?_ (by first|omega|(dsimp only;omega)) (by first|omega|(dsimp only;omega))|refine Fr.yV ?_ (by first|omega|(dsimp only;omega))|refine Fr.Gv ?_ (by first|omega|(dsimp only;omega))|refine Fr.MB ?_ (by first|omega|(dsimp only;omega)))):Fr σ σ':=h
theorem fE.up {ex:List Nat} {σ σ' : St} {n:Nat} (hf:fE ex σ σ') (hn:σ'.ah≤n):fE ex σ ⟨σ'.h,n⟩:=⟨Nat.le_trans hf.le hn,fun b hb=>hf.wf b (Nat.le_trans hn hb),hf.old⟩
theorem fE.MB {ex:List Nat} {σ:St} {h:Tr Bk} {n n' : Nat} {k:Bk} (hf:fE ex σ ⟨h,n⟩) (hn:n<n'):fE ex σ ⟨hset h n k,n'⟩:=fE.up (fE.new1 hf) hn
theorem aO.st {E:Env} {f:Nat} {args:List V} {σ:St} {K:V→St→Prop} (P:St→Prop) (h:P σ) (h2:P σ→aO E f args σ K):aO E f args σ K:=h2 h
theorem bM.st {E:Env} {c:AC} {tm:Tr V} {σ:St} {Q:AX→Tr V→St→Prop} (P:St→Prop) (h:P σ) (h2:P σ→bM E c tm σ Q):bM E c tm σ Q:=h2 h
/-! ### Lists of cells that are read -/
theorem NV {e:Nat} {l:List B} : ∀ {n:Nat} {o:Nat} {G:Nat→List B},(∀ i,i<n→yw l (o+i*e) e true=some (.agg (G i)))→(l.drop o).take (n*e)=bH n G∧(bH n G).length=n*e∧(bH n G).all B.kn=true
 | 0,o,G,_=>by rw [Nat.zero_mul,List.take_zero];exact ⟨rfl,rfl,rfl⟩
 | n+1,o,G,h=>by
  have h0:=h 0 jb
  rw [Nat.zero_mul,Nat.add_zero] at h0
  unfold yw at h0
  dsimp only at h0
  cases hx:(Nat.beq ((l.drop o).take e).length e && ((l.drop o).take e).all B.kn) with
  | false=>rw [hx] at h0;cases h0
  | true =>
   rw [hx] at h0
   have e0:(l.drop o).take e=G 0:=by
    have:=Option.some.inj h0
    exact V.agg.inj this
   rw [Bool.and_eq_true] at hx
   have hl:=Nat.eq_of_beq_eq_true hx.1
   obtain ⟨h1,h2,h3⟩:=NV (o:=o+e) (n:=n) (G:=fun i=>G (i+1)) fun i hi=>by
    have:=h (i+1) jb
    rw [Nat.succ_mul,Nat.add_comm (i*e),← Nat.add_assoc] at this
    exact this
   refine ⟨?_,?_,?_⟩
   ·unfold bH
    rw [← e0,← h1,← List.drop_drop,Nat.succ_mul,Nat.add_comm (n*e),List.take_add]
   ·unfold bH
    rw [List.length_append,h2,← e0,hl,Nat.succ_mul,Nat.add_comm]
   ·unfold bH
    rw [List.all_append,h3,← e0,hx.2];rfl
theorem NW {h:Tr Bk} {e b o n:Nat} {G:Nat→List B} (hn:0<n) (hl : ∀ i,i<n→ld h b (o+i*e) e true=some (.agg (G i))) : ∃ k,h b=some k∧k.rd=true∧(k.cells.drop o).take (n*e)=bH n G∧(bH n G).length=n*e∧(bH n G).all B.kn=true:=by
 cases hb:h b with
 | none =>
  have:=hl 0 hn
  unfold ld at this
  rw [hb] at this;cases this
 | some k =>
  refine ⟨k,rfl,?_,NV fun i hi=>?_⟩
  ·have:=hl 0 hn
   unfold ld at this
   rw [hb] at this
   cases hr:k.rd with
   | true=>rfl
   | false=>dsimp only at this;rw [hr] at this;cases this
  ·have:=hl i hi
   unfold ld at this
   rw [hb] at this
   dsimp only at this
   cases hr:k.rd with
   | true=>rw [hr] at this;exact this
   | false=>rw [hr] at this;cases this
theorem abo (n:Nat) (f:Nat→Rat):(dO n f).take (n*3)=dO n f:=by rw [← TY n f,List.take_length]
theorem aiB (h1:0<m) (h2:0<fU) (h3:m*bytes≤140737488355328) (h4:m≤1073741824):oP ty fU bytes (.c (.sl b 0 0 (.ex 0))) m news ⟨hset h b ⟨[],none⟩,nx⟩=some (.c (.sl nx 0 m .opn),⟨hset (hset h b ⟨[],none⟩) nx ⟨news,some (fU,ty)⟩,nx+1⟩):=Xb (aA _ _ _) h1 h2 h3 h4
theorem Xc : ∀ {n:Nat} {G:Nat→List B},(∀ j,(G j).all B.kn=true)→(bH n G).all B.kn=true
 | 0,_,_=>rfl
 | n+1,G,h=>by unfold bH;rw [List.all_append,h 0,Xc fun j=>h (j+1)];rfl
theorem aiC (n:Nat) (f:Nat→Rat):(dO n f).all B.kn=true:=Xc fun _=>rfl
theorem apY:((Int.ofNat 1:Int):Rat)=1:=rfl
theorem apZ:((Int.ofNat 0:Int):Rat)=0:=rfl
attribute [go_sem] aiB aiC Bool.not_true Bool.not_false apY apZ gI amA abl apX abm aiz aev aex W9 Xa NU Ue abn abo TY Ua abj abk
end Go.Proofs.Xe
namespace Go.Proofs.Xe
open Go.RowKit Go.Proofs.Ins
def JR (k:IntKind) (v:V):Option V:=match v with|.c (.int _ n)=>bif LP k n then some (.c (.int k n)) else some (.c (.int k (k.wrap n)))|_=>none
theorem amD (E:Env) (tm:Tr V) (σ:St) (K:V→St→Prop) (k:IntKind) (x:O):wpOp E (.conv k x) tm σ K=EP (JR k (x.ev tm)) fun v=>K v σ:=iL _ _ _ _ rfl fun _ _ h=>by cases h
theorem YW {k j:IntKind} {n:Int} (h:k.wrap n=n):JR k (.c (.int j n))=some (.c (.int k n)):=by
 unfold JR
 dsimp only
 cases LP k n with
 | true=>rfl
 | false=>rw [cond_false,h]
theorem amE (j:IntKind) (a:Nat) (h:a≤9223372036854775807):JR .i64 (.c (.int j (.ofNat a)))=some (.c (.int .i64 (.ofNat a))):=YW (by rw [IntKind.wrap_i64];simp only [Int.ofNat_eq_natCast];omega)
theorem amF (j:IntKind) (a:Nat) (h:a≤18446744073709551615):JR .u64 (.c (.int j (.ofNat a)))=some (.c (.int .u64 (.ofNat a))):=YW (by rw [IntKind.wrap_u64];simp only [Int.ofNat_eq_natCast];omega)
theorem amG (j:IntKind) (a:Nat):JR .u16 (.c (.int j (.ofNat a)))=some (.c (.int .u16 (.ofNat (a%65536)))):=by
 have e:IntKind.u16.wrap (Int.ofNat a)=Int.ofNat (a%65536):=by rw [IntKind.wrap_u16];simp only [Int.ofNat_eq_natCast];omega
 unfold JR
 dsimp only
 have:LP .u16 (Int.ofNat a)=false:=rfl
 rw [this,cond_false,e]
theorem yX (op:BinOp) (k:IntKind) (a b:Int):qp op (.c (.int k a)) (.c (.int k b))=Wu op k a b:=by
 unfold qp
 simp
theorem ap0 (k:IntKind) (a b:Nat) (h:0<b):qp .rem (.c (.int k (.ofNat a))) (.c (.int k (.ofNat b)))=some (.c (.int k (.ofNat (a%b)))):=by
 rw [yX]
 unfold Wu yK
 dsimp only
 rw [decide_eq_false (by simp only [Int.ofNat_eq_natCast];omega)]
 rfl
theorem amH (k:IntKind) (a b:Nat) (h:0<b) (hw:k.wrap (Int.ofNat (a/b))=Int.ofNat (a/b)):qp .quo (.c (.int k (.ofNat a))) (.c (.int k (.ofNat b)))=some (.c (.int k (.ofNat (a/b)))):=by
 rw [yX]
 unfold Wu yK
 dsimp only
 rw [decide_eq_false (by simp only [Int.ofNat_eq_natCast];omega)]
 show some (V.c (.int k (k.wrap (Int.ofNat (a/b)))))=_
 rw [hw]
theorem uX (a b m:Nat) (h:a≤m):a/b≤m:=Nat.le_trans (Nat.div_le_self _ _) h
theorem abp (a b:Nat) (h:0<b) (h2:a≤65535):qp .quo (.c (.int .u16 (.ofNat a))) (.c (.int .u16 (.ofNat b)))=some (.c (.int .u16 (.ofNat (a/b)))):=amH _ _ _ h (by have:=uX a b _ h2;rw [IntKind.wrap_u16];simp only [Int.ofNat_eq_natCast];generalize a/b=q at *;omega)
theorem aiD (k:IntKind) (a b:Nat) (ha:a<2 ^ k.bits) (hb:b<2 ^ k.bits):(BitVec.ofInt k.bits (Int.ofNat a) &&& BitVec.ofInt k.bits (Int.ofNat b)).toNat=a &&& b:=by
 show (BitVec.ofInt k.bits (a:Int) &&& BitVec.ofInt k.bits (b:Int)).toNat=_
 rw [BitVec.ofInt_natCast,BitVec.ofInt_natCast,BitVec.toNat_and,BitVec.toNat_ofNat,BitVec.toNat_ofNat,Nat.mod_eq_of_lt ha,Nat.mod_eq_of_lt hb]
theorem abq (a b:Nat) (ha:a≤9223372036854775807) (hb:b≤9223372036854775807):qp .and (.c (.int .i64 (.ofNat a))) (.c (.int .i64 (.ofNat b)))=some (.c (.int .i64 (.ofNat (a &&& b)))):=by
 rw [yX]
 unfold Wu yK
 dsimp only
 rw [aiD .i64 a b (by show a<18446744073709551616;omega) (by show b<18446744073709551616;omega),IntKind.wrap_i64]
 have h1:a &&& b≤a:=Nat.and_le_left
 refine congrArg (fun z=>some (V.c (B.int .i64 z))) ?_
 simp only [Int.ofNat_eq_natCast]
 generalize a &&& b=q at *
 omega
theorem ap1 (a b:Nat) (h:a*b≤9223372036854775807):qp .mul (.c (.int .i64 (.ofNat a))) (.c (.int .i64 (.ofNat b)))=some (.c (.int .i64 (.ofNat (a*b)))):=by
 show mkI .i64 (Int.ofNat a*Int.ofNat b)=_
 rw [show Int.ofNat a*Int.ofNat b=Int.ofNat (a*b) from rfl,PY h]
theorem ap2 (k j:IntKind) (a c:Nat):qp .shr (.c (.int k (.ofNat a))) (.c (.int j (.ofNat c)))=some (.c (.int k (.ofNat (a/2 ^ min c k.bits)))):=by
 have e:qp .shr (.c (.int k (.ofNat a))) (.c (.int j (.ofNat c)))=Ws .shr k (.ofNat a) (.ofNat c):=by
  unfold qp
  dsimp only
  by_cases h:k=j
  ·subst h
   rw [decide_eq_true rfl];rfl
  ·rw [decide_eq_false h];rfl
 rw [e]
 unfold Ws
 dsimp only
 rw [decide_eq_false (by simp only [Int.ofNat_eq_natCast];omega)]
 show some (V.c (.int k (Int.fdiv (Int.ofNat a) (2 ^ min (Int.ofNat c).toNat k.bits))))=_
 congr 3
 rw [show (Int.ofNat c).toNat=c from rfl,show (2:Int) ^ min c k.bits=((2 ^ min c k.bits:Nat):Int) by simp,Int.ofNat_eq_natCast,Int.fdiv_eq_ediv_of_nonneg _ (Int.natCast_nonneg _)]
 rfl
theorem aeB:IntKind.bits .i64=64:=rfl
theorem aeC:IntKind.bits .u16=16:=rfl
theorem aeD:IntKind.bits .u64=64:=rfl
theorem amI (k:IntKind) (a b:Int):qp .eql (.c (.int k a)) (.c (.int k b))=some (.c (.bool (decide (a=b)))):=by rw [yX];rfl
theorem amJ (k:IntKind) (a b:Int):qp .neq (.c (.int k a)) (.c (.int k b))=some (.c (.bool (!decide (a=b)))):=by rw [yX];rfl
attribute [go_sem] amD amE amF amG ap0 abp abq ap1 ap2 aeB aeC aeD amI amJ
end Go.Proofs.Xe
namespace Go.Proofs.Ins
open Go.RowKit
def Own (w:World) (b sz n:Nat) (F:Nat→List Value):Prop :=
 ∃ c T,w.heap[b]?=some (.cells c T (0,0))∧c.size=n*sz∧∀ i j,i<n→j<sz→c[i*sz+j]?=(F i)[j]?
theorem Own.lt {w:World} {b sz n:Nat} {F:Nat→List Value} (h:Own w b sz n F):b<w.heap.size:=by
 obtain ⟨c,T,hc,_⟩:=h
 exact (Array.getElem?_eq_some_iff.mp hc).1
theorem Own.frozen {w:World} {b sz n:Nat} {F:Nat→List Value} (h:Own w b sz n F) (j:Nat):w.frozen? ⟨b,j,none⟩=false:=by
 obtain ⟨c,T,hc,_⟩:=h
 exact frozen_of_row w b j c T hc
theorem Own.block {w w' : World} {b sz n:Nat} {F:Nat→List Value} (h:Own w b sz n F) (hb:w'.heap[b]?=w.heap[b]?):Own w' b sz n F:=by
 obtain ⟨c,T,hc,r⟩:=h
 exact ⟨c,T,hb.trans hc,r⟩
theorem Own.below {w w' : World} {b sz n B:Nat} {F:Nat→List Value} (h:Own w b sz n F) (hb:Below B w w') (hB:b<B):Own w' b sz n F:=h.block (hb.block b hB)
theorem Own.on {w w' : World} {b sz n:Nat} {F:Nat→List Value} (h:Own w b sz n F) (hb:Below w.heap.size w w'):Own w' b sz n F:=h.below hb h.lt
theorem Own.alloc {w:World} {b sz n:Nat} {F:Nat→List Value} (h:Own w b sz n F) (o:Obj):Own (w.alloc o) b sz n F:=h.block (Below.heap_alloc w o b h.lt)
theorem Own.congr {w:World} {b sz n:Nat} {F G:Nat→List Value} (h:Own w b sz n F) (hg : ∀ i,i<n→F i=G i):Own w b sz n G:=by
 obtain ⟨c,T,hc,hn,hf⟩:=h
 exact ⟨c,T,hc,hn,fun i j hi hj=>by rw [← hg i hi];exact hf i j hi hj⟩
theorem Own.cell {w:World} {b sz n:Nat} {F:Nat→List Value} (h:Own w b sz n F) {i j:Nat} (hi:i<n) (hj:j<sz):w.cell? ⟨b,i*sz+j,none⟩=(F i)[j]?:=by
 obtain ⟨c,T,hc,hn,hf⟩:=h
 rw [cell_of_row w b _ c T (0,0) hc,hf i j hi hj]
theorem Own.reads {w:World} {b sz n:Nat} {F:Nat→List Value} (h:Own w b sz n F):wW w b 0 sz n F:=fun i j hi hj=>by
 rw [Nat.zero_add];exact h.cell hi hj
theorem Own.arg {w:World} {b sz n:Nat} {F:Nat→List Value} (h:Own w b sz n F):OG w (some ⟨b,0,none⟩) n sz F:=.inr ⟨b,0,rfl,h.lt,h.reads⟩
theorem abr {c:Array Value} {k:Nat} {v:Value} {m:Nat} : (c.setIfInBounds k v)[m]?=if k=m then (if m<c.size then some v else none) else c[m]?:=by
 rw [Array.getElem?_setIfInBounds]
 by_cases e:k=m
 ·subst e;rfl
 ·rw [if_neg e,if_neg e]
def aK (F:Nat→List Value) (i:Nat) (x:List Value) (k:Nat):List Value:=if k=i then x else F k
theorem aH (F:Nat→List Value) (i:Nat) (x:List Value):aK F i x i=x:=if_pos rfl
theorem JU {F:Nat→List Value} {i k:Nat} {x:List Value} (h:k≠i):aK F i x k=F k:=if_neg h
theorem Own.setAt {w:World} {b sz n:Nat} {F:Nat→List Value} (h:Own w b sz n F) (i j:Nat) (v:Value) (hi:i<n) (hj:j<sz) (hl:(F i).length=sz) :
  Own (w.setCell ⟨b,i*sz+j,none⟩ v) b sz n (aK F i ((F i).set j v)):=by
 obtain ⟨c,T,hc,hn,hf⟩:=h
 refine ⟨c.setIfInBounds (i*sz+j) v,T,?_,by simpa using hn,fun i' j' hi' hj'=>?_⟩
 ·rw [World.setCell]
  simp only [Array.getElem?_modify]
  simp [hc]
 ·have hlt:i' * sz+j' < c.size:=by
   rw [hn]
   have:=Nat.mul_le_mul_right sz (show i' + 1≤n by omega)
   rw [Nat.succ_mul] at this;omega
  rw [abr]
  by_cases e:i*sz+j=i' * sz+j'
  ·have e1:i=i':=by
    have h1:(i*sz+j)/sz=i:=by rw [Nat.mul_comm,Nat.mul_add_div (by omega),Nat.div_eq_of_lt hj,Nat.add_zero]
    have h2:(i' * sz+j')/sz=i':=by rw [Nat.mul_comm,Nat.mul_add_div (by omega),Nat.div_eq_of_lt hj',Nat.add_zero]
    rw [← h1,← h2,e]
   subst e1
   obtain rfl:j=j':=by omega
   rw [if_pos rfl,if_pos hlt,aH,List.getElem?_set]
   simp [hl,hj]
  ·rw [if_neg e,hf i' j' hi' hj']
   by_cases e1:i' = i
   ·subst e1
    rw [aH,List.getElem?_set,if_neg (by omega)]
   ·rw [JU e1]
theorem Own.set1 {w:World} {b n:Nat} {F:Nat→List Value} (h:Own w b 1 n F) (i:Nat) (v:Value) (hi:i<n) (hl:(F i).length=1):Own (w.setCell ⟨b,i,none⟩ v) b 1 n (aK F i [v]):=by
 have:=h.setAt i 0 v hi jb hl
 rw [Nat.mul_one,Nat.add_zero] at this
 match hF:F i,hl with
 | [x],_=>rw [hF] at this;exact this
theorem MC (z:Array Value) (m k:Nat) (hk:k<m) (hz:0<z.size):(madeCells z m)[k]?=z[k%z.size]?:=by
 unfold madeCells
 have h2:k%z.size<z.size:=Nat.mod_lt _ hz
 simp [hk,h2,getElem!_pos]
theorem abt {P:Program} {T:TypeId} {zs:List Value} {bytes:Nat} (h:(P.info? T).map (fun i=>(i.zero.map (fun z=>z.cells.toList),i.size,i.bytes))=some (some zs,zs.length,bytes)) :
  ∃ i z,P.info? T=some i∧i.zero=some z∧z.cells.toList=zs∧i.size=zs.length∧i.bytes=bytes:=by
 cases hi:P.info? T with
 | none=>rw [hi] at h;cases h
 | some i =>
  rw [hi] at h
  simp only [Option.map_some,Option.some.injEq,Prod.mk.injEq] at h
  obtain ⟨h1,h2,h3⟩:=h
  cases hz:i.zero with
  | none=>rw [hz] at h1;cases h1
  | some z =>
   rw [hz] at h1
   exact ⟨i,z,rfl,hz,Option.some.inj h1,h2,h3⟩
theorem P9 {P:Program} {w:World} {ops:Array Oper} {rest:List Oper} {o:Oper} {a:Act} {Q:Exit→Act→World→Prop}
  (l c:Operand) (t e:TypeId) (zs:List Value) (bytes n:Nat) (C:Int) (hg:o.guard=none) (hop:o.op=Op.makeSlice t l c)
  (h1:P.underlying t=some (.slice e)) (h2:(P.info? e).map (fun i=>(i.zero.map (fun z=>z.cells.toList),i.size,i.bytes))=some (some zs,zs.length,bytes)) (hzs:0<zs.length)
  (hl:a.eval l = .int .i64 C) (hc:a.eval c = .int .i64 C) (hC:C=(n:Int)) (hn:n≤4294967296) (hb:bytes≤1024)
  (hK : ∀ w',Own w' w.heap.size zs.length n (fun _=>zs)→Below w.heap.size w w'→w'.heap.size=w.heap.size+1→wpList P ops Q rest (a.put o.dst (.slice (some ⟨w.heap.size,0,none⟩) n n)) w') :
  wpList P ops Q (o::rest) a w:=by
 obtain ⟨i,z,hi,hz,hzc,hs,hbb⟩:=abt h2
 refine wpList_plain hg fun K hK'=>?_
 have hrun:=run_make (P:=P) w t e i _ h1 hi hz .i64 .i64 n n (by omega) (by omega) (by
  rw [hbb]
  have h5:=Nat.mul_le_mul hb hn
  omega) (by omega)
 subst hC
 unfold Oper.wp
 simp [execOp,hop,hl,hc,hrun,Result.andThen]
 rw [hs]
 have hzz:z.cells.size=zs.length:=by rw [← Array.length_toList,hzc]
 refine hK' _ _ (hK _ ⟨madeCells z.cells (n*zs.length),e,heap_alloc_new w _,size_madeCells _ _,fun i j hi hj=>?_⟩ ((Below.refl _ _).alloc (Nat.le_refl _) _) (by simp))
 have hlt:i*zs.length+j<n*zs.length:=by
  have:=Nat.mul_le_mul_right zs.length (show i+1≤n by omega)
  rw [Nat.succ_mul] at this;omega
 rw [MC _ _ _ hlt (by omega),hzz,Nat.mul_comm,Nat.mul_add_mod,Nat.mod_eq_of_lt hj,← hzc,Array.getElem?_toList]
end Go.Proofs.Ins
