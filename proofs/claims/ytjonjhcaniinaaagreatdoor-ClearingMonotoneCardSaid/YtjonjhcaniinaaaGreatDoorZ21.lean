/- Blocks of n elements of sz cells that the call itself made: read and written. -/
import Derived.Test.YtjonjhcaniinaaaGreatDoorZ20
set_option linter.unusedSimpArgs false
set_option linter.unusedVariables false
namespace Go.Proofs.Xe
open Go.RowKit Go.Proofs.Ins
/-! ### Blocks of n elements -/
def bC:Nat→(Nat→List B)→List B
 | 0,_=>[]
 | n+1,G=>G 0 ++ bC n fun i=>G (i+1)
theorem Qd {e:Nat} : ∀ {n:Nat} {G:Nat→List B} {i:Nat},(∀ j,(G j).length=e)→i<n→∃ r,(bC n G).drop (i*e)=G i ++ r
 | 0,_,_,_,h=>by omega
 | n+1,G,0,_,_=>⟨bC n fun i=>G (i+1),by rw [Nat.zero_mul];rfl⟩
 | n+1,G,i+1,hG,h=>by
  obtain ⟨r,hr⟩:=Qd (G:=fun i=>G (i+1)) (i:=i) (fun j=>hG (j+1)) (by omega:i<n)
  refine ⟨r,?_⟩
  show (G 0 ++ bC n fun i=>G (i+1)).drop _=_
  rw [Nat.succ_mul,Nat.add_comm,← hG 0,List.drop_length_add_append,hG 0]
  exact hr
theorem Dn {e n i k m:Nat} {G:Nat→List B} (g:Bool) (hG : ∀ j,(G j).length=e) (h:i<n) (hk:k+m≤e) (hm:0<m):wV (bC n G) (i*e+k) m g=wV (G i) k m g:=by
 obtain ⟨r,hr⟩:=Qd hG h
 have hd:(bC n G).drop (i*e+k)=(G i).drop k ++ r:=by
  rw [← List.drop_drop,hr,List.drop_append_of_le_length (by rw [hG];omega)]
 have hl:((G i).drop k).length=e - k:=by rw [List.length_drop,hG]
 unfold wV
 cases g with
 | true =>
  dsimp only
  rw [hd,List.take_append_of_le_length (by omega)]
 | false =>
  dsimp only
  rw [hd]
  cases hx:(G i).drop k with
  | nil=>rw [hx] at hl;simp at hl;omega
  | cons x l=>rfl
theorem abZ : ∀ (p:List B) (l:List B) (o:Nat) (vs:List B),rU (p ++ l) (p.length+o) vs=match rU l o vs with|some r=>some (p ++ r)|none=>none
 | [],l,o,vs=>by
  rw [List.nil_append,List.length_nil,Nat.zero_add]
  cases rU l o vs <;> rfl
 | x::p,l,o,vs=>by
  rw [List.cons_append,List.length_cons,show p.length+1+o=(p.length+o)+1 by omega,rU,abZ p l o vs]
  cases rU l o vs <;> rfl
theorem WG : ∀ (p:List B) (l:List B) (o:Nat) (vs:List B),o+vs.length≤p.length→rU (p ++ l) o vs=match rU p o vs with|some r=>some (r ++ l)|none=>none
 | p,l,0,vs,h=>by
  unfold rU
  have h:vs.length≤p.length:=by omega
  rw [jQ h,jQ (show vs.length≤(p ++ l).length by rw [List.length_append];omega)]
  dsimp only [cond_true]
  rw [List.drop_append_of_le_length h,List.append_assoc]
 | [],l,o+1,vs,h=>by simp at h
 | x::p,l,o+1,vs,h=>by
  rw [List.cons_append,rU,rU,WG p l o vs (by simp only [List.length_cons] at h;omega)]
  cases rU p o vs <;> rfl
def iT (G:Nat→List B) (i:Nat) (r:List B):Nat→List B:=fun j=>if j=i then r else G j
theorem xE {e k:Nat} {vs:List B} : ∀ {n i:Nat} {G:Nat→List B},(∀ j,(G j).length=e)→i<n→k+vs.length≤e→rU (bC n G) (i*e+k) vs=match rU (G i) k vs with|some r=>some (bC n (iT G i r))|none=>none
 | 0,_,_,_,h,_=>by omega
 | n+1,0,G,hG,_,hk=>by
  rw [Nat.zero_mul,Nat.zero_add]
  show rU (G 0 ++ _) k vs=_
  rw [WG _ _ _ _ (by rw [hG];omega)]
  cases rU (G 0) k vs <;> rfl
 | n+1,i+1,G,hG,h,hk=>by
  show rU (G 0 ++ bC n fun i=>G (i+1)) _ vs=_
  rw [show (i+1)*e+k=(G 0).length+(i*e+k) by rw [hG,Nat.succ_mul];omega,abZ,xE (fun j=>hG (j+1)) (by omega) hk]
  cases rU (G (i+1)) k vs with
  | none=>rfl
  | some r =>
   show some _=some _
   congr 1
   show G 0 ++ _=iT G (i+1) r 0 ++ _
   congr 2
   funext j
   unfold iT
   simp only [Nat.add_right_cancel_iff]
theorem dB : ∀ {n:Nat} {G H:Nat→List B},(∀ i,i<n→G i=H i)→bC n G=bC n H
 | 0,_,_,_=>rfl
 | n+1,G,H,h=>by
  unfold bC
  rw [h 0 (by omega),dB fun i hi=>h (i+1) (by omega)]
theorem Nz (z:List B) : ∀ n,rep z n=bC n fun _=>z
 | 0=>rfl
 | n+1=>by unfold rep bC;rw [Nz z n]
theorem jg : ∀ (n:Nat) (G:Nat→List B) (r:List B),bC n G ++ r=bC (n+1) (iT G n r)
 | 0,G,r=>by unfold bC iT;simp [bC]
 | n+1,G,r=>by
  rw [bC,List.append_assoc,jg n _ r]
  show _=iT G (n+1) r 0 ++ bC (n+1) _
  congr 2
  funext j
  unfold iT
  simp only [Nat.add_right_cancel_iff]
theorem nP {e:Nat} : ∀ {n:Nat} {G:Nat→List B},(∀ j,(G j).length=e)→(bC n G).length=n*e
 | 0,_,_=>by simp [bC]
 | n+1,G,h=>by
  rw [bC,List.length_append,h,nP fun j=>h (j+1),Nat.succ_mul];omega
theorem Ij {h:Tr Bk} {b o n:Nat} {cs:List B} (e:ld h b o n true=some (.agg cs)) (k m:Nat) (g:Bool) (hk:k+m≤n) (hm:0<m):ld h b (o+k) m g=wV cs k m g:=by
 unfold ld at e ⊢
 cases hb:h b with
 | none=>rw [hb] at e;cases e
 | some bk =>
  rw [hb] at e
  dsimp only at e ⊢
  cases hr:bk.rd with
  | false=>rw [hr] at e;cases e
  | true =>
   rw [hr] at e
   simp only [cond_true] at e ⊢
   unfold wV at e
   dsimp only at e
   cases hx:(Nat.beq ((bk.cells.drop o).take n).length n && ((bk.cells.drop o).take n).all B.kn) with
   | false=>rw [hx] at e;cases e
   | true =>
    rw [hx] at e
    cases e
    rw [Bool.and_eq_true] at hx
    have hl:=Nat.eq_of_beq_eq_true hx.1
    rw [List.length_take] at hl
    unfold wV
    cases g with
    | true =>
     dsimp only
     rw [List.drop_take,List.take_take,List.drop_drop,Nat.min_eq_left (by omega)]
    | false =>
     dsimp only
     rw [List.drop_take,List.drop_drop]
     have hd:n - k=(n - k - 1)+1:=by omega
     rw [hd]
     cases (bk.cells.drop (o+k)) <;> rfl
theorem WH {h:Tr Bk} {b o n:Nat} {cs:List B} (e:ld h b o n true=some (.agg cs)) (m:Nat) (g:Bool) (hk:m≤n) (hm:0<m):ld h b o m g=wV cs 0 m g:=Ij e 0 m g (by omega) hm
/-! ### alp; single cells -/
def kC (q:Rat):List B:=[.bool (rn q),.str (rs q),.str (rd q)]
def eP (n:Nat) (f:Nat→Rat):List B:=bC n fun i=>kC (f i)
def aI {α:Type} (f:Nat→α) (i:Nat) (q:α):Nat→α:=fun j=>if j=i then q else f j
theorem WI (n:Nat) (f:Nat→Rat) (i:Nat) (h:i<n):wV (eP n f) (i*3) 3 true=some (.agg [.bool (rn (f i)),.str (rs (f i)),.str (rd (f i))]):=by
 unfold eP
 have:=Dn (e:=3) (k:=0) (m:=3) (G:=fun i=>kC (f i)) true (fun _=>rfl) h (by decide) (by decide)
 rw [Nat.add_zero] at this
 rw [this];rfl
theorem afN (n:Nat) (f:Nat→Rat) (i:Nat) (q:Rat) (h:i<n):rU (eP n f) (i*3) [.bool (rn q),.str (rs q),.str (rd q)]=some (eP n (aI f i q)):=by
 unfold eP
 have:=xE (e:=3) (k:=0) (vs:=kC q) (G:=fun i=>kC (f i)) (fun _=>rfl) h (Nat.le_refl 3)
 rw [Nat.add_zero] at this
 show rU _ _ (kC q)=_
 rw [this]
 show some _=some _
 congr 2
 funext j
 unfold iT aI
 split <;> rfl
theorem gW {n:Nat} {f g:Nat→Rat} (h : ∀ i,i<n→f i=g i):eP n f=eP n g:=dB fun i hi=>by rw [h i hi]
theorem ab1 (n:Nat):rep [.bool (rn 0),.str (rs 0),.str (rd 0)] n=eP n fun _=>0:=Nz _ n
theorem YZ (n:Nat) (f:Nat→Rat) (q:Rat):eP n f ++ [.bool (rn q),.str (rs q),.str (rd q)]=eP (n+1) (aI f n q):=by
 unfold eP
 rw [show [B.bool (rn q),.str (rs q),.str (rd q)]=kC q from rfl,jg]
 congr 1
 funext j
 unfold iT aI
 split <;> rfl
theorem Qe (n:Nat) (f:Nat→Rat):(eP n f).length=n*3:=nP fun _=>rfl
def ones (n:Nat) (g:Nat→B):List B:=bC n fun i=>[g i]
theorem afO (n:Nat) (g:Nat→B) (i:Nat) (h:i<n):wV (ones n g) (i*1) 1 false=bif (g i).kn then some (.c (g i)) else none:=by
 unfold ones
 have:=Dn (e:=1) (k:=0) (m:=1) (G:=fun i=>[g i]) false (fun _=>rfl) h (by decide) (by decide)
 rw [Nat.add_zero] at this
 rw [this];rfl
theorem afP (n:Nat) (g:Nat→B) (i:Nat) (x:B) (h:i<n):rU (ones n g) (i*1) [x]=some (ones n (aI g i x)):=by
 unfold ones
 have:=xE (e:=1) (k:=0) (vs:=[x]) (G:=fun i=>[g i]) (fun _=>rfl) h (Nat.le_refl 1)
 rw [Nat.add_zero] at this
 rw [this]
 show some _=some _
 congr 2
 funext j
 unfold iT aI
 split <;> rfl
theorem ab2 (x:B) (n:Nat):rep [x] n=ones n fun _=>x:=Nz _ n
theorem Y0 (n:Nat) (g:Nat→B) (x:B):ones n g ++ [x]=ones (n+1) (aI g n x):=by
 unfold ones
 rw [jg]
 congr 1
 funext j
 unfold iT aI
 split <;> rfl
theorem Qg (n:Nat) (g:Nat→B):(ones n g).length=n*1:=nP fun _=>rfl
theorem aG {α:Type} (f:Nat→α) (i:Nat) (q:α):aI f i q i=q:=if_pos rfl
theorem aH {α:Type} (f:Nat→α) (i j:Nat) (q:α) (h:j≠i):aI f i q j=f j:=if_neg h
/-! ### Slices of slices -/
def Qh : Option V→Nat→Option Nat
 | none,d=>some d
 | some v,_=>AB v
theorem ab3 (b:Option O) (tm:Tr V) (d:Nat):Pq b tm d=Qh (b.map (·.ev tm)) d:=by cases b <;> rfl
def Un (fC:Nat) (x:V) (lo hi mx:Option V):Option V :=
 match x with
 | .c (.sl b o n c) =>
  match Qh lo 0,Qh hi n with
  | some l,some h=>bif Nat.ble l h && Nat.ble h n then
    match mx with
    | none=>(match c with
     | .ex k=>bif Nat.blt l k then some (.c (.sl b (o+l*fC) (h - l) (.ex (k - l)))) else some (.c (.sl b o 0 .any))
     | .opn=>bif Nat.beq l 0 then some (.c (.sl b o h .opn)) else bif Nat.blt l n then some (.c (.sl b (o+l*fC) (h - l) .any)) else some (.c (.sl b o 0 .any))
     | .any=>bif Nat.blt l n then some (.c (.sl b (o+l*fC) (h - l) .any)) else some (.c (.sl b o 0 .any)))
    | some y=>match AB y with
     | some q=>bif Nat.ble h q && Nat.ble q n then bif Nat.beq l 0 then some (.c (.sl b o h (bif Nat.beq n 0 then .any else .ex q))) else none else none
     | none=>none
   else none
  | _,_=>none
 | .c .aW=>match Qh lo 0,Qh hi 0 with
  | some 0,some 0=>(match mx with|none=>some (.c .aW)|some y=>match AB y with|some 0=>some (.c .aW)|_=>none)
  | _,_=>none
 | _=>none
theorem Qi (fC:Nat) (x:O) (lo hi mx:Option O) (tm:Tr V):GY fC x lo hi mx tm=Un fC (x.ev tm) (lo.map (·.ev tm)) (hi.map (·.ev tm)) (mx.map (·.ev tm)):=by
 unfold GY Un
 simp only [iJ,ab3]
 cases mx <;> rfl
theorem afQ (E:Env) (tm:Tr V) (σ:St) (K:V→St→Prop) (fC:Nat) (x:O) (lo hi mx:Option O):wpOp E (.slice fC x lo hi mx) tm σ K=Ey (Un fC (x.ev tm) (lo.map (·.ev tm)) (hi.map (·.ev tm)) (mx.map (·.ev tm))) fun v=>K v σ:=by
 rw [iR _ _ _ _ (by rfl) fun _ _ h=>by cases h]
 show Ey (GY fC x lo hi mx tm) _=_
 rw [Qi]
def afR:B→Prop
 | .sl _ _ n (.ex k)=>n≤k
 | _=>True
theorem ajG {v:B} {n h:Nat} (hc:afR v) (hv:(n=0∧v = .aW)∨∃ b o c,v = .sl b o n c∧0<n) (hh:h≤n) (fC:Nat) : ∃ v',Un fC (.c v) none (some (.c (.int .i64 (.ofNat h)))) none=some (.c v')∧afR v'∧((n=0∧v' = .aW)∨∃ b o c c',v = .sl b o n c∧v' = .sl b o h c'):=by
 rcases hv with ⟨rfl,rfl⟩|⟨b,o,c,rfl,hn⟩
 ·have:h=0:=by omega
  subst this
  exact ⟨.aW,rfl,trivial,.inl ⟨rfl,rfl⟩⟩
 ·cases c with
  | ex k =>
   have hc:n≤k:=hc
   refine ⟨.sl b o h (.ex k),?_,by show h≤k;omega,.inr ⟨b,o,_,_,rfl,rfl⟩⟩
   unfold Un Qh AB
   simp only [jQ hh,jQ (Nat.zero_le h),Ea (show 0<k by omega),Bool.and_self,cond_true,Nat.zero_mul,Nat.add_zero,Nat.sub_zero]
  | opn =>
   refine ⟨.sl b o h .opn,?_,trivial,.inr ⟨b,o,_,_,rfl,rfl⟩⟩
   unfold Un Qh AB
   simp only [jQ hh,jQ (Nat.zero_le h),WA,Bool.and_self,cond_true]
  | any =>
   refine ⟨.sl b o h .any,?_,trivial,.inr ⟨b,o,_,_,rfl,rfl⟩⟩
   unfold Un Qh AB
   simp only [jQ hh,jQ (Nat.zero_le h),Ea hn,Bool.and_self,cond_true,Nat.zero_mul,Nat.add_zero,Nat.sub_zero]
attribute [go_sem] afQ Option.map_some Option.map_none
attribute [go_sem] WI afN ab1 afO afP ab2
/-! ### Frames with exceptions -/
structure fG (ex:List Nat) (σ σ' : St):Prop where
 le:σ.ah≤σ'.ah
 wf:WF σ'
 old : ∀ b,b<σ.ah→¬ b∈ex→σ'.h b=σ.h b
theorem Fr.ex {σ σ' : St} (h:Fr σ σ') (ex:List Nat):fG ex σ σ':=⟨h.le,h.wf,fun b hb _=>h.old b hb⟩
theorem fG.refl {σ:St} {ex:List Nat} (h:WF σ):fG ex σ σ:=(Fr.refl h).ex ex
theorem fG.trans {ex:List Nat} {σ σ' σ'' : St} (h:fG ex σ σ') (h' : fG ex σ' σ''):fG ex σ σ'':=⟨Nat.le_trans h.le h'.le,h'.wf,fun b hb hx=>(h'.old b (Nat.lt_of_lt_of_le hb h.le) hx).trans (h.old b hb hx)⟩
theorem fG.to {ex:List Nat} {σ0 σ σ' : St} (h:Fr σ0 σ) (he:fG ex σ σ') (hx : ∀ b∈ex,σ0.ah≤b):Fr σ0 σ':=⟨Nat.le_trans h.le he.le,he.wf,fun b hb=>(he.old b (Nat.lt_of_lt_of_le hb h.le) fun hm=>by have:=hx b hm;omega).trans (h.old b hb)⟩
theorem fG.to' {ex ex' : List Nat} {σ0 σ σ' : St} (h:fG ex' σ0 σ) (he:fG ex σ σ') (hx : ∀ b∈ex,σ0.ah≤b∨b∈ex'):fG ex' σ0 σ':=⟨Nat.le_trans h.le he.le,he.wf,fun b hb hn=>(he.old b (Nat.lt_of_lt_of_le hb h.le) fun hm=>by rcases hx b hm with h|h;omega;exact hn h).trans (h.old b hb hn)⟩
theorem fG.new1 {ex:List Nat} {σ:St} {h:Tr Bk} {n:Nat} {k:Bk} (hf:fG ex σ ⟨h,n⟩):fG ex σ ⟨hset h n k,n+1⟩ :=
 ⟨Nat.le_succ_of_le hf.le,fun b hb=>by
  have hb:n+1≤b:=hb
  show hset h n k b=none
  rw [ak _ _ _ _ (by omega)];exact hf.wf b (show n≤b by omega),fun b hb hx=>by
  show hset h n k b=_
  have:σ.ah≤n:=hf.le
  rw [ak _ _ _ _ (by omega)];exact hf.old b hb hx⟩
theorem fG.set1 {ex:List Nat} {σ:St} {h:Tr Bk} {n b:Nat} {k:Bk} (hf:fG ex σ ⟨h,n⟩) (hb:σ.ah≤b∨b∈ex) (hb2:b<n):fG ex σ ⟨hset h b k,n⟩ :=
 ⟨hf.le,fun j hj=>by
  have hj:n≤j:=hj
  show hset h b k j=none
  rw [ak _ _ _ _ (by omega)];exact hf.wf j hj,fun j hj hx=>by
  show hset h b k j=_
  rw [ak _ _ _ _ (fun e=>by subst e;rcases hb with hb|hb;omega;exact hx hb)];exact hf.old j hj hx⟩
theorem fG.ld {ex:List Nat} {σ σ' : St} (h:WF σ) (hf:fG ex σ σ') {b o n:Nat} {g:Bool} {v:V} (hx : ¬ b∈ex) (hb:Xe.ld σ.h b o n g=some v):Xe.ld σ'.h b o n g=some v:=by
 have hlt:=h.iK hb
 unfold Xe.ld at hb ⊢
 rw [hf.old b hlt hx];exact hb
theorem fG.get {ex:List Nat} {σ σ' : St} (h:WF σ) (hf:fG ex σ σ') {b:Nat} {k:Bk} (hx : ¬ b∈ex) (hb:σ.h b=some k):σ'.h b=some k:=by rw [hf.old b (h.lt hb) hx];exact hb
/-! ### Numbers with a common denominator -/
def uK:Nat:=1000
def dK:Nat:=29000000
def eK:Nat:=29002000
def Zk (D k:Nat) (q:Rat):Prop:=∃ a:Int,q=(a:Rat)/(D:Rat)∧a.natAbs≤k*(D*256 ^ uK)
def Eb (D:Nat):Prop:=0<D∧D<256 ^ dK
theorem afS {D k u d s a:Nat} (hD:D<256 ^ d) (hk:k≤256 ^ u) (hs:u+d+u≤s) (ha:a≤k*(D*256 ^ u)):a<256 ^ s:=by
 have h1:(256:Nat) ^ (u+d+u)≤256 ^ s:=Nat.pow_le_pow_right (by decide) hs
 refine Nat.lt_of_le_of_lt ha (Nat.lt_of_lt_of_le ?_ h1)
 rw [Nat.pow_add,Nat.pow_add,Nat.mul_assoc]
 exact Nat.lt_of_le_of_lt (Nat.mul_le_mul_right _ hk) (Nat.mul_lt_mul_of_pos_left (Nat.mul_lt_mul_of_pos_right hD (Nat.pow_pos (by decide))) (Nat.pow_pos (by decide)))
theorem Sm.int {k:Nat} {a:Int} (hk:k≠0) (h:a.natAbs<256 ^ k):Sm k (a:Rat):=⟨by show (a:Rat).num.natAbs<_;rwa [Rat.num_intCast],by rw [Rat.den_intCast];exact Nat.one_lt_pow hk (by decide)⟩
section
variable {D k l:Nat} {p q:Rat}
theorem Eb.ne (h:Eb D):(D:Rat)≠0:=by
 have:=h.1
 intro e
 have:(D:Rat)=((0:Nat):Rat):=e
 have:=Rat.natCast_inj.mp this
 omega
theorem Zk.int {a:Int} (hD:Eb D) (hk:k≤256 ^ uK) (h:a.natAbs≤k*(D*256 ^ uK)):Sm eK (a:Rat):=Sm.int (by decide) (afS hD.2 hk (by decide) h)
theorem Zk.sz (h:Zk D k q) (hD:Eb D) (hk:k≤256 ^ uK):Sz q:=by
 obtain ⟨a,rfl,h2⟩:=h
 have h3:Sm dK ((D:Int):Rat):=Sm.int (by decide) hD.2
 exact ((Zk.int hD hk h2).div h3 hD.ne).mono (by decide)
theorem Zk.amH (h:Zk D k p) (h' : Zk D l q) (hD:Eb D) (hk:k≤256 ^ uK) (hl:l≤256 ^ uK) (h0:q≠0):Sz (p/q):=by
 obtain ⟨a,rfl,h2⟩:=h
 obtain ⟨b,rfl,h3⟩:=h'
 have hb:(b:Rat)≠0:=fun e=>h0 (by rw [e];grind)
 have e:(a:Rat)/(D:Rat)/((b:Rat)/(D:Rat))=(a:Rat)/(b:Rat):=by
  have:=hD.ne
  grind
 rw [e]
 exact ((Zk.int hD hk h2).div (Zk.int hD hl h3) hb).mono (by decide)
theorem Zk.mono (h:Zk D k q) (hkl:k≤l):Zk D l q:=by
 obtain ⟨a,e,h2⟩:=h
 exact ⟨a,e,Nat.le_trans h2 (Nat.mul_le_mul_right _ hkl)⟩
theorem Zk.add (h:Zk D k p) (h' : Zk D l q):Zk D (k+l) (p+q):=by
 obtain ⟨a,rfl,h2⟩:=h
 obtain ⟨b,rfl,h3⟩:=h'
 refine ⟨a+b,?_,?_⟩
 ·rw [Rat.intCast_add];grind
 ·rw [Nat.add_mul];omega
theorem Zk.neg (h:Zk D k p):Zk D k (-p):=by
 obtain ⟨a,rfl,h2⟩:=h
 refine ⟨-a,?_,by rw [Int.natAbs_neg];exact h2⟩
 rw [Rat.intCast_neg];grind
theorem Zk.sub (h:Zk D k p) (h' : Zk D l q):Zk D (k+l) (p - q):=by
 rw [Rat.sub_eq_add_neg]
 exact h.add h'.neg
theorem Zk.zero:Zk D k 0:=⟨0,by grind,by simp⟩
theorem Zk.den {m:Nat} (hm:0<m) (h:Zk D k p):Zk (D*m) k p:=by
 obtain ⟨a,rfl,h2⟩:=h
 refine ⟨a*m,?_,?_⟩
 ·have:(m:Rat)≠0:=fun e=>by
   have e:(m:Rat)=((0:Nat):Rat):=e
   have:=Rat.natCast_inj.mp e
   omega
  have e2:((a*(m:Int):Int):Rat)=(a:Rat)*(m:Rat):=by rw [Rat.intCast_mul];rfl
  have e3:((D*m:Nat):Rat)=(D:Rat)*(m:Rat):=Rat.natCast_mul _ _
  rw [e2,e3]
  by_cases hD:(D:Rat)=0
  ·rw [hD];grind
  ·grind
 ·rw [Int.natAbs_mul,Int.natAbs_natCast]
  calc a.natAbs*m≤k*(D*256 ^ uK)*m:=Nat.mul_le_mul_right _ h2
   _=k*(D*m*256 ^ uK):=by rw [Nat.mul_assoc,Nat.mul_right_comm D]
end
noncomputable def hdel (h:Tr Bk) (b:Nat):Tr Bk:=h.set b none
theorem NC (h:Tr Bk) (b j:Nat):hdel h b j=if j=b then none else h j:=Tr.jZ h b none j
theorem fH (h:Tr Bk) (b j:Nat) (e:j≠b):hdel h b j=h j:=by rw [NC,if_neg e]
theorem ajH (h:Tr Bk) (b j o n:Nat) (g:Bool) (e:j≠b):ld (hdel h b) j o n g=ld h j o n g:=by unfold ld;rw [fH _ _ _ e]
def ab4 (o:Option (V×St)) (K:V→St→Prop):Prop:=match o with|some (v,σ)=>K v σ|none=>False
@[congr] theorem ajI {o o' : Option (V×St)} {K:V→St→Prop} (h:o=o'):ab4 o K=ab4 o' K:=by rw [h]
theorem Y5 (v:V) (σ:St) (K:V→St→Prop):ab4 (some (v,σ)) K=K v σ:=rfl
noncomputable def Qj (ty fC bytes:Nat) (s x:V) (σ:St):Option (V×St) :=
 match x with
 | .c .aW=>mZ ty fC bytes s 0 [] σ
 | .c (.sl b o m _)=>bif Nat.beq m 0 then mZ ty fC bytes s 0 [] σ else match σ.h b with
  | some k=>bif k.rd && (Nat.beq ((k.cells.drop o).take (m*fC)).length (m*fC) && ((k.cells.drop o).take (m*fC)).all B.kn) then mZ ty fC bytes s m ((k.cells.drop o).take (m*fC)) σ else none
  | none=>none
 | _=>none
theorem amI (E:Env) (tm:Tr V) (σ:St) (K:V→St→Prop) (ty fC bytes:Nat) (s x:O):wpOp E (.app ty fC bytes s x) tm σ K=ab4 (Qj ty fC bytes (s.ev tm) (x.ev tm) σ) K:=by
 unfold wpOp kK
 simp only [oI.kind]
 show (match nY (.app ty fC bytes s x) tm σ with|some (v,σ')=>K v σ'|none=>False)=_
 have e:nY (.app ty fC bytes s x) tm σ=Qj ty fC bytes (s.ev tm) (x.ev tm) σ:=by
  unfold nY Qj
  rfl
 rw [e]
 unfold ab4
 cases Qj ty fC bytes (s.ev tm) (x.ev tm) σ <;> rfl
theorem Y6 (ty fC bytes:Nat) (s:V) (σ:St):Qj ty fC bytes s (.c .aW) σ=mZ ty fC bytes s 0 [] σ:=rfl
theorem ab5 (ty fC bytes:Nat) (s:V) (b o:Nat) (c:Cap) (σ:St):Qj ty fC bytes s (.c (.sl b o 0 c)) σ=mZ ty fC bytes s 0 [] σ:=rfl
theorem afT (ty fC bytes:Nat) (s:V) (b o m:Nat) (c:Cap) (σ:St) (hm:0<m):Qj ty fC bytes s (.c (.sl b o m c)) σ=match σ.h b with
  | some k=>bif k.rd && (Nat.beq ((k.cells.drop o).take (m*fC)).length (m*fC) && ((k.cells.drop o).take (m*fC)).all B.kn) then mZ ty fC bytes s m ((k.cells.drop o).take (m*fC)) σ else none
  | none=>none:=by
 unfold Qj
 dsimp only
 rw [KI (by omega:m≠0)];rfl
variable {ty fC bytes n m:Nat} {news:List B} {h:Tr Bk} {nx b:Nat}
theorem KJ (h1:0<m) (h2:0<fC) (h3:m*bytes≤140737488355328) (h4:m≤1073741824):mZ ty fC bytes (.c .aW) m news ⟨h,nx⟩=some (.c (.sl nx 0 m .opn),⟨hset h nx ⟨news,some (fC,ty)⟩,nx+1⟩):=by
 unfold mZ
 dsimp only
 rw [KI (by omega:m≠0),Ea h2,jQ h3,jQ h4]
 simp only [Bool.and_self,cond_true,cond_false,jH]
noncomputable def apK (ty fC bytes n m:Nat) (news:List B) (b:Nat) (h:Tr Bk) (nx:Nat) (k:Option Bk):Option (V×St):=match k with
 | some ⟨cells,some (e,t)⟩=>bif Nat.blt 0 e && Nat.beq 0 0 && (Nat.beq e fC && (Nat.beq t ty && (Nat.ble ((n+m)*bytes) 140737488355328 && (Nat.ble (n+m) 1073741824 && Nat.ble (n*fC) cells.length)))) then
   some (.c (.sl nx 0 (n+m) .opn),⟨hset (hdel h b) nx ⟨cells.take (n*fC) ++ news,some (fC,ty)⟩,nx+1⟩) else none
 | _=>none
theorem ab6 (h1:0<m):mZ ty fC bytes (.c (.sl b 0 n .opn)) m news ⟨h,nx⟩=apK ty fC bytes n m news b h nx (h b):=by
 unfold mZ apK
 dsimp only
 rw [KI (by omega:m≠0)]
 simp only [cond_false]
 split
 ·next cells e t hk =>
  rw [hk]
  dsimp only
  cases (Nat.blt 0 e && Nat.beq 0 0 && (Nat.beq e fC && (Nat.beq t ty && (Nat.ble ((n+m)*bytes) 140737488355328 && (Nat.ble (n+m) 1073741824 && Nat.ble (n*fC) cells.length))))) with
  | false=>rfl
  | true =>
   simp only [cond_true,Tr.put,jH,iJ]
   rfl
 ·next hne =>
  split
  ·next cells e t hk=>exact (hne cells e t hk).elim
  ·rfl
theorem Qk {cells:List B} (h2:0<fC) (h3:(n+m)*bytes≤140737488355328) (h4:n+m≤1073741824) (h5:n*fC≤cells.length):apK ty fC bytes n m news b h nx (some ⟨cells,some (fC,ty)⟩)=some (.c (.sl nx 0 (n+m) .opn),⟨hset (hdel h b) nx ⟨cells.take (n*fC) ++ news,some (fC,ty)⟩,nx+1⟩):=by
 unfold apK
 dsimp only
 rw [Ea h2,jQ h3,jQ h4,jQ h5]
 simp
theorem Y7 (b o n:Nat) (σ:St):mZ ty fC bytes (.c (.sl b o n (.ex n))) 0 news σ=some (.c (.sl b o n (.ex n)),σ):=by
 unfold mZ
 dsimp only
 rw [jQ (Nat.le_refl n)];rfl
theorem ab7 (b o n:Nat) (σ:St):mZ ty fC bytes (.c (.sl b o n .any)) 0 news σ=some (.c (.sl b o n .any),σ):=rfl
theorem Uo (σ:St) (h1:0<m) (h2:0<fC) (h3:m*bytes≤140737488355328) (h4:m≤1073741824):mZ ty fC bytes (.c .aW) m news σ=some (.c (.sl σ.ah 0 m .opn),⟨hset σ.h σ.ah ⟨news,some (fC,ty)⟩,σ.ah+1⟩):=KJ h1 h2 h3 h4
theorem Ur (σ:St):mZ ty fC bytes (.c .aW) 0 news σ=some (.c .aW,σ):=rfl
theorem KL (σ:St) (h1:0<m):mZ ty fC bytes (.c (.sl b 0 n .opn)) m news σ=apK ty fC bytes n m news b σ.h σ.ah (σ.h b):=ab6 h1
theorem Us {σ:St} (hb:σ.h b=some ⟨[],none⟩) (h1:0<m) (h2:0<fC) (h3:m*bytes≤140737488355328) (h4:m≤1073741824):mZ ty fC bytes (.c (.sl b 0 0 (.ex 0))) m news σ=some (.c (.sl σ.ah 0 m .opn),⟨hset σ.h σ.ah ⟨news,some (fC,ty)⟩,σ.ah+1⟩):=by
 unfold mZ
 dsimp only
 rw [KI (by omega:m≠0),hb]
 simp only [cond_false,Bk.rd,Nat.zero_mul,List.take_zero,List.all_nil,Ea h2,Nat.zero_add,Ea h1,jQ h3,jQ h4,List.length_nil,Bool.and_self,cond_true,jH,iJ,List.drop_zero,List.nil_append,Bool.true_and,Nat.add_zero]
 rfl
theorem Fr.Ik {σ:St} {h:Tr Bk} {n b:Nat} (hf:Fr σ ⟨h,n⟩) (h1:σ.ah≤b):Fr σ ⟨hdel h b,n⟩ :=
 ⟨hf.le,fun j hj=>by
  show hdel h b j=none
  rw [NC]
  split
  ·rfl
  ·exact hf.wf j hj,fun j hj=>by
  show hdel h b j=_
  rw [fH _ _ _ (by omega)];exact hf.old j hj⟩
theorem fG.Ik {ex:List Nat} {σ:St} {h:Tr Bk} {n b:Nat} (hf:fG ex σ ⟨h,n⟩) (h1:σ.ah≤b∨b∈ex):fG ex σ ⟨hdel h b,n⟩ :=
 ⟨hf.le,fun j hj=>by
  show hdel h b j=none
  rw [NC]
  split
  ·rfl
  ·exact hf.wf j hj,fun j hj hx=>by
  show hdel h b j=_
  rw [fH _ _ _ (fun e=>by subst e;rcases h1 with h|h;omega;exact hx h)];exact hf.old j hj hx⟩
/-! ### Lists of one's own, empty or not, in one form -/
def aN:Nat→Nat→B
 | 0,_=>.aW
 | n+1,b=>.sl b 0 (n+1) .opn
noncomputable def yN:Nat→Tr Bk→Nat→Tr Bk
 | 0,h,_=>h
 | _+1,h,b=>hdel h b
noncomputable def uF:Nat→Tr Bk→Nat→Option Bk
 | 0,_,_=>none
 | _+1,h,b=>h b
def gF (n:Nat) (G:Nat→List B) (e ty:Nat):Option Bk:=match n with
 | 0=>none
 | n+1=>some ⟨bC (n+1) G,some (e,ty)⟩
def LG (G:Nat→List B) (e:Nat):Prop:=∀ j,(G j).length=e
noncomputable def apF (ty fC bytes n m:Nat) (news:List B) (b:Nat) (h:Tr Bk) (nx:Nat) (k:Option Bk):Option (V×St):=match n with
 | 0=>mZ ty fC bytes (.c .aW) m news ⟨h,nx⟩
 | n+1=>apK ty fC bytes (n+1) m news b h nx k
theorem EU (n b:Nat):(aN n b).kn=true:=by cases n <;> rfl
theorem ab8 (n b:Nat):lenV (.c (aN n b))=some (.c (.int .i64 (.ofNat n))):=by cases n <;> rfl
theorem gJ (n:Nat) (h:Tr Bk) (b j:Nat) (e:n=0∨j≠b):yN n h b j=h j:=by
 cases n with
 | zero=>rfl
 | succ n=>exact fH _ _ _ (by omega)
theorem afU (k:Nat) (h:Tr Bk) (b j o n:Nat) (g:Bool) (e:k=0∨j≠b):ld (yN k h b) j o n g=ld h j o n g:=by unfold ld;rw [gJ _ _ _ _ e]
theorem pV {n:Nat} {h h' : Tr Bk} {b:Nat} (e:n=0∨h' b=h b):uF n h' b=uF n h b:=by
 cases n with
 | zero=>rfl
 | succ n=>exact e.resolve_left (by omega)
theorem ab9 (n:Nat) (h:Tr Bk) (j b:Nat) (k:Bk) (e:n=0∨b≠j):uF n (hset h j k) b=uF n h b:=pV (by
 rcases e with e|e
 ·exact .inl e
 ·exact .inr (ak _ _ _ _ e))
theorem acd (σ:St) (h1:0<m):mZ ty fC bytes (.c (aN n b)) m news σ=apF ty fC bytes n m news b σ.h σ.ah (uF n σ.h b):=by
 cases n with
 | zero=>rfl
 | succ n=>exact KL σ h1
theorem ajJ {G:Nat→List B} (h1:0<m) (h2:0<fC) (h3:(n+m)*bytes≤140737488355328) (h4:n+m≤1073741824) (hG:LG G fC):apF ty fC bytes n m news b h nx (gF n G fC ty)=some (.c (.sl nx 0 (n+m) .opn),⟨hset (yN n h b) nx ⟨bC n G ++ news,some (fC,ty)⟩,nx+1⟩):=by
 cases n with
 | zero =>
  rw [Nat.zero_add] at h3 h4 ⊢
  exact KJ h1 h2 h3 h4
 | succ n =>
  show apK ty fC bytes (n+1) m news b h nx (some ⟨bC (n+1) G,some (fC,ty)⟩)=_
  rw [Qk h2 h3 h4 (by rw [nP hG];exact Nat.le_refl _),← nP (n:=n+1) hG,List.take_length]
  rfl
theorem Fr.yN {σ:St} {h:Tr Bk} {n b k:Nat} (hf:Fr σ ⟨h,n⟩) (h1:k=0∨σ.ah≤b):Fr σ ⟨Xe.yN k h b,n⟩:=by
 cases k with
 | zero=>exact hf
 | succ k=>exact Fr.Ik hf (by omega)
theorem fG.yN {ex:List Nat} {σ:St} {h:Tr Bk} {n b k:Nat} (hf:fG ex σ ⟨h,n⟩) (h1:σ.ah≤b∨b∈ex):fG ex σ ⟨Xe.yN k h b,n⟩:=by
 cases k with
 | zero=>exact hf
 | succ k=>exact fG.Ik hf h1
attribute [go_sem] EU ab8 gJ afU ab9 acd ajJ
theorem Fr.up {σ σ' : St} {n:Nat} (hf:Fr σ σ') (hn:σ'.ah≤n):Fr σ ⟨σ'.h,n⟩:=⟨Nat.le_trans hf.le hn,fun b hb=>hf.wf b (Nat.le_trans hn hb),hf.old⟩
theorem Fr.ND {σ:St} {h:Tr Bk} {n n' : Nat} {k:Bk} (hf:Fr σ ⟨h,n⟩) (hn:n<n'):Fr σ ⟨hset h n k,n'⟩:=Fr.up (Fr.new1 hf) hn
theorem fr {σ σ' : St} (h:Fr σ σ':=by repeat (first|assumption|exact Fr.refl (by assumption)|exact Fr.up (by assumption) (by first|omega|(dsimp only;omega))|exact Fr.up (Fr.refl (by assumption)) (by first|omega|(dsimp only;omega))|refine Fr.set1 ?_ (by first|omega|(dsimp only;omega)) (by first|omega|(dsimp only;omega))|refine Fr.yN ?_ (by first|omega|(dsimp only;omega))|refine Fr.Ik ?_ (by first|omega|(dsimp only;omega))|refine Fr.ND ?_ (by first|omega|(dsimp only;omega)))):Fr σ σ':=h
theorem fG.up {ex:List Nat} {σ σ' : St} {n:Nat} (hf:fG ex σ σ') (hn:σ'.ah≤n):fG ex σ ⟨σ'.h,n⟩:=⟨Nat.le_trans hf.le hn,fun b hb=>hf.wf b (Nat.le_trans hn hb),hf.old⟩
theorem fG.ND {ex:List Nat} {σ:St} {h:Tr Bk} {n n' : Nat} {k:Bk} (hf:fG ex σ ⟨h,n⟩) (hn:n<n'):fG ex σ ⟨hset h n k,n'⟩:=fG.up (fG.new1 hf) hn
theorem aT.st {E:Env} {f:Nat} {args:List V} {σ:St} {K:V→St→Prop} (P:St→Prop) (h:P σ) (h2:P σ→aT E f args σ K):aT E f args σ K:=h2 h
theorem bY.st {E:Env} {c:AC} {tm:Tr V} {σ:St} {Q:AX→Tr V→St→Prop} (P:St→Prop) (h:P σ) (h2:P σ→bY E c tm σ Q):bY E c tm σ Q:=h2 h
/-! ### Lists of cells that are read -/
theorem KP {e:Nat} {l:List B} : ∀ {n:Nat} {o:Nat} {G:Nat→List B},(∀ i,i<n→wV l (o+i*e) e true=some (.agg (G i)))→(l.drop o).take (n*e)=bC n G∧(bC n G).length=n*e∧(bC n G).all B.kn=true
 | 0,o,G,_=>by rw [Nat.zero_mul,List.take_zero];exact ⟨rfl,rfl,rfl⟩
 | n+1,o,G,h=>by
  have h0:=h 0 (by omega)
  rw [Nat.zero_mul,Nat.add_zero] at h0
  unfold wV at h0
  dsimp only at h0
  cases hx:(Nat.beq ((l.drop o).take e).length e && ((l.drop o).take e).all B.kn) with
  | false=>rw [hx] at h0;cases h0
  | true =>
   rw [hx] at h0
   have e0:(l.drop o).take e=G 0:=by
    have:=Option.some.inj h0
    exact V.agg.inj this
   rw [Bool.and_eq_true] at hx
   have hl:=Nat.eq_of_beq_eq_true hx.1
   obtain ⟨h1,h2,h3⟩:=KP (o:=o+e) (n:=n) (G:=fun i=>G (i+1)) fun i hi=>by
    have:=h (i+1) (by omega)
    rw [Nat.succ_mul,Nat.add_comm (i*e),← Nat.add_assoc] at this
    exact this
   refine ⟨?_,?_,?_⟩
   ·unfold bC
    rw [← e0,← h1,← List.drop_drop,Nat.succ_mul,Nat.add_comm (n*e),List.take_add]
   ·unfold bC
    rw [List.length_append,h2,← e0,hl,Nat.succ_mul,Nat.add_comm]
   ·unfold bC
    rw [List.all_append,h3,← e0,hx.2];rfl
theorem KQ {h:Tr Bk} {e b o n:Nat} {G:Nat→List B} (hn:0<n) (hl : ∀ i,i<n→ld h b (o+i*e) e true=some (.agg (G i))) : ∃ k,h b=some k∧k.rd=true∧(k.cells.drop o).take (n*e)=bC n G∧(bC n G).length=n*e∧(bC n G).all B.kn=true:=by
 cases hb:h b with
 | none =>
  have:=hl 0 hn
  unfold ld at this
  rw [hb] at this;cases this
 | some k =>
  refine ⟨k,rfl,?_,KP fun i hi=>?_⟩
  ·have:=hl 0 hn
   unfold ld at this
   rw [hb] at this
   cases hr:k.rd with
   | true=>rfl
   | false=>dsimp only at this;rw [hr] at this;cases this
  ·have:=hl i hi
   unfold ld at this
   rw [hb] at this
   dsimp only at this
   cases hr:k.rd with
   | true=>rw [hr] at this;exact this
   | false=>rw [hr] at this;cases this
theorem Y8 (n:Nat) (f:Nat→Rat):(eP n f).take (n*3)=eP n f:=by rw [← Qe n f,List.take_length]
theorem afV (h1:0<m) (h2:0<fC) (h3:m*bytes≤140737488355328) (h4:m≤1073741824):mZ ty fC bytes (.c (.sl b 0 0 (.ex 0))) m news ⟨hset h b ⟨[],none⟩,nx⟩=some (.c (.sl nx 0 m .opn),⟨hset (hset h b ⟨[],none⟩) nx ⟨news,some (fC,ty)⟩,nx+1⟩):=Us (au _ _ _) h1 h2 h3 h4
theorem Ut : ∀ {n:Nat} {G:Nat→List B},(∀ j,(G j).all B.kn=true)→(bC n G).all B.kn=true
 | 0,_,_=>rfl
 | n+1,G,h=>by unfold bC;rw [List.all_append,h 0,Ut fun j=>h (j+1)];rfl
theorem afW (n:Nat) (f:Nat→Rat):(eP n f).all B.kn=true:=Ut fun _=>rfl
theorem amJ:((Int.ofNat 1:Int):Rat)=1:=rfl
theorem amK:((Int.ofNat 0:Int):Rat)=0:=rfl
attribute [go_sem] afV afW Bool.not_true Bool.not_false amJ amK fH ajH Y5 amI Y6 afT ab5 ab7 Uo Ur KL Qk Y7 Y8 Qe Qg YZ Y0
end Go.Proofs.Xe
namespace Go.Proofs.Xe
open Go.RowKit Go.Proofs.Ins
def Il (k:IntKind) (v:V):Option V:=match v with|.c (.int _ n)=>bif Jj k n then some (.c (.int k n)) else some (.c (.int k (k.wrap n)))|_=>none
theorem ajK (E:Env) (tm:Tr V) (σ:St) (K:V→St→Prop) (k:IntKind) (x:O):wpOp E (.conv k x) tm σ K=Ey (Il k (x.ev tm)) fun v=>K v σ:=iR _ _ _ _ rfl fun _ _ h=>by cases h
theorem WJ {k j:IntKind} {n:Int} (h:k.wrap n=n):Il k (.c (.int j n))=some (.c (.int k n)):=by
 unfold Il
 dsimp only
 cases Jj k n with
 | true=>rfl
 | false=>rw [cond_false,h]
theorem ajL (j:IntKind) (a:Nat) (h:a≤9223372036854775807):Il .i64 (.c (.int j (.ofNat a)))=some (.c (.int .i64 (.ofNat a))):=WJ (by rw [IntKind.wrap_i64];simp only [Int.ofNat_eq_natCast];omega)
theorem ajM (j:IntKind) (a:Nat) (h:a≤18446744073709551615):Il .u64 (.c (.int j (.ofNat a)))=some (.c (.int .u64 (.ofNat a))):=WJ (by rw [IntKind.wrap_u64];simp only [Int.ofNat_eq_natCast];omega)
theorem ajN (j:IntKind) (a:Nat):Il .u16 (.c (.int j (.ofNat a)))=some (.c (.int .u16 (.ofNat (a%65536)))):=by
 have e:IntKind.u16.wrap (Int.ofNat a)=Int.ofNat (a%65536):=by rw [IntKind.wrap_u16];simp only [Int.ofNat_eq_natCast];omega
 unfold Il
 dsimp only
 have:Jj .u16 (Int.ofNat a)=false:=rfl
 rw [this,cond_false,e]
theorem xG (op:BinOp) (k:IntKind) (a b:Int):nX op (.c (.int k a)) (.c (.int k b))=TF op k a b:=by
 unfold nX
 simp
theorem amL (k:IntKind) (a b:Nat) (h:0<b):nX .rem (.c (.int k (.ofNat a))) (.c (.int k (.ofNat b)))=some (.c (.int k (.ofNat (a%b)))):=by
 rw [xG]
 unfold TF wW
 dsimp only
 rw [decide_eq_false (by simp only [Int.ofNat_eq_natCast];omega)]
 rfl
theorem ajO (k:IntKind) (a b:Nat) (h:0<b) (hw:k.wrap (Int.ofNat (a/b))=Int.ofNat (a/b)):nX .quo (.c (.int k (.ofNat a))) (.c (.int k (.ofNat b)))=some (.c (.int k (.ofNat (a/b)))):=by
 rw [xG]
 unfold TF wW
 dsimp only
 rw [decide_eq_false (by simp only [Int.ofNat_eq_natCast];omega)]
 show some (V.c (.int k (k.wrap (Int.ofNat (a/b)))))=_
 rw [hw]
theorem rZ (a b m:Nat) (h:a≤m):a/b≤m:=Nat.le_trans (Nat.div_le_self _ _) h
theorem Y9 (a b:Nat) (h:0<b) (h2:a≤65535):nX .quo (.c (.int .u16 (.ofNat a))) (.c (.int .u16 (.ofNat b)))=some (.c (.int .u16 (.ofNat (a/b)))):=ajO _ _ _ h (by have:=rZ a b _ h2;rw [IntKind.wrap_u16];simp only [Int.ofNat_eq_natCast];generalize a/b=q at *;omega)
theorem afX (k:IntKind) (a b:Nat) (ha:a<2 ^ k.bits) (hb:b<2 ^ k.bits):(BitVec.ofInt k.bits (Int.ofNat a) &&& BitVec.ofInt k.bits (Int.ofNat b)).toNat=a &&& b:=by
 show (BitVec.ofInt k.bits (a:Int) &&& BitVec.ofInt k.bits (b:Int)).toNat=_
 rw [BitVec.ofInt_natCast,BitVec.ofInt_natCast,BitVec.toNat_and,BitVec.toNat_ofNat,BitVec.toNat_ofNat,Nat.mod_eq_of_lt ha,Nat.mod_eq_of_lt hb]
theorem Za (a b:Nat) (ha:a≤9223372036854775807) (hb:b≤9223372036854775807):nX .and (.c (.int .i64 (.ofNat a))) (.c (.int .i64 (.ofNat b)))=some (.c (.int .i64 (.ofNat (a &&& b)))):=by
 rw [xG]
 unfold TF wW
 dsimp only
 rw [afX .i64 a b (by show a<18446744073709551616;omega) (by show b<18446744073709551616;omega),IntKind.wrap_i64]
 have h1:a &&& b≤a:=Nat.and_le_left
 refine congrArg (fun z=>some (V.c (B.int .i64 z))) ?_
 simp only [Int.ofNat_eq_natCast]
 generalize a &&& b=q at *
 omega
theorem amM (a b:Nat) (h:a*b≤9223372036854775807):nX .mul (.c (.int .i64 (.ofNat a))) (.c (.int .i64 (.ofNat b)))=some (.c (.int .i64 (.ofNat (a*b)))):=by
 show mkI .i64 (Int.ofNat a*Int.ofNat b)=_
 rw [show Int.ofNat a*Int.ofNat b=Int.ofNat (a*b) from rfl,Nv h]
theorem amN (k j:IntKind) (a c:Nat):nX .shr (.c (.int k (.ofNat a))) (.c (.int j (.ofNat c)))=some (.c (.int k (.ofNat (a/2 ^ min c k.bits)))):=by
 have e:nX .shr (.c (.int k (.ofNat a))) (.c (.int j (.ofNat c)))=TD .shr k (.ofNat a) (.ofNat c):=by
  unfold nX
  dsimp only
  by_cases h:k=j
  ·subst h
   rw [decide_eq_true rfl];rfl
  ·rw [decide_eq_false h];rfl
 rw [e]
 unfold TD
 dsimp only
 rw [decide_eq_false (by simp only [Int.ofNat_eq_natCast];omega)]
 show some (V.c (.int k (Int.fdiv (Int.ofNat a) (2 ^ min (Int.ofNat c).toNat k.bits))))=_
 congr 3
 rw [show (Int.ofNat c).toNat=c from rfl,show (2:Int) ^ min c k.bits=((2 ^ min c k.bits:Nat):Int) by simp,Int.ofNat_eq_natCast,Int.fdiv_eq_ediv_of_nonneg _ (Int.natCast_nonneg _)]
 rfl
theorem ace:IntKind.bits .i64=64:=rfl
theorem acf:IntKind.bits .u16=16:=rfl
theorem acg:IntKind.bits .u64=64:=rfl
theorem ajP (k:IntKind) (a b:Int):nX .eql (.c (.int k a)) (.c (.int k b))=some (.c (.bool (decide (a=b)))):=by rw [xG];rfl
theorem ajQ (k:IntKind) (a b:Int):nX .neq (.c (.int k a)) (.c (.int k b))=some (.c (.bool (!decide (a=b)))):=by rw [xG];rfl
attribute [go_sem] ajK ajL ajM ajN amL Y9 Za amM amN ace acf acg ajP ajQ
end Go.Proofs.Xe
namespace Go.Proofs.Ins
open Go.RowKit
def Own (w:World) (b sz n:Nat) (F:Nat→List Value):Prop :=
 ∃ c T,w.heap[b]?=some (.cells c T (0,0))∧c.size=n*sz∧∀ i j,i<n→j<sz→c[i*sz+j]?=(F i)[j]?
theorem Own.lt {w:World} {b sz n:Nat} {F:Nat→List Value} (h:Own w b sz n F):b<w.heap.size:=by
 obtain ⟨c,T,hc,_⟩:=h
 exact (Array.getElem?_eq_some_iff.mp hc).1
theorem Own.frozen {w:World} {b sz n:Nat} {F:Nat→List Value} (h:Own w b sz n F) (j:Nat):w.frozen? ⟨b,j,none⟩=false:=by
 obtain ⟨c,T,hc,_⟩:=h
 exact frozen_of_row w b j c T hc
theorem Own.block {w w' : World} {b sz n:Nat} {F:Nat→List Value} (h:Own w b sz n F) (hb:w'.heap[b]?=w.heap[b]?):Own w' b sz n F:=by
 obtain ⟨c,T,hc,r⟩:=h
 exact ⟨c,T,hb.trans hc,r⟩
theorem Own.below {w w' : World} {b sz n B:Nat} {F:Nat→List Value} (h:Own w b sz n F) (hb:Below B w w') (hB:b<B):Own w' b sz n F:=h.block (hb.block b hB)
theorem Own.on {w w' : World} {b sz n:Nat} {F:Nat→List Value} (h:Own w b sz n F) (hb:Below w.heap.size w w'):Own w' b sz n F:=h.below hb h.lt
theorem Own.alloc {w:World} {b sz n:Nat} {F:Nat→List Value} (h:Own w b sz n F) (o:Obj):Own (w.alloc o) b sz n F:=h.block (Below.heap_alloc w o b h.lt)
theorem Own.congr {w:World} {b sz n:Nat} {F G:Nat→List Value} (h:Own w b sz n F) (hg : ∀ i,i<n→F i=G i):Own w b sz n G:=by
 obtain ⟨c,T,hc,hn,hf⟩:=h
 exact ⟨c,T,hc,hn,fun i j hi hj=>by rw [← hg i hi];exact hf i j hi hj⟩
theorem Own.cell {w:World} {b sz n:Nat} {F:Nat→List Value} (h:Own w b sz n F) {i j:Nat} (hi:i<n) (hj:j<sz):w.cell? ⟨b,i*sz+j,none⟩=(F i)[j]?:=by
 obtain ⟨c,T,hc,hn,hf⟩:=h
 rw [cell_of_row w b _ c T (0,0) hc,hf i j hi hj]
theorem Own.reads {w:World} {b sz n:Nat} {F:Nat→List Value} (h:Own w b sz n F):uT w b 0 sz n F:=fun i j hi hj=>by
 rw [Nat.zero_add];exact h.cell hi hj
theorem Own.arg {w:World} {b sz n:Nat} {F:Nat→List Value} (h:Own w b sz n F):LP w (some ⟨b,0,none⟩) n sz F:=.inr ⟨b,0,rfl,h.lt,h.reads⟩
theorem Zb {c:Array Value} {k:Nat} {v:Value} {m:Nat} : (c.setIfInBounds k v)[m]?=if k=m then (if m<c.size then some v else none) else c[m]?:=by
 rw [Array.getElem?_setIfInBounds]
 by_cases e:k=m
 ·subst e;rfl
 ·rw [if_neg e,if_neg e]
def aI (F:Nat→List Value) (i:Nat) (x:List Value) (k:Nat):List Value:=if k=i then x else F k
theorem aG (F:Nat→List Value) (i:Nat) (x:List Value):aI F i x i=x:=if_pos rfl
theorem Io {F:Nat→List Value} {i k:Nat} {x:List Value} (h:k≠i):aI F i x k=F k:=if_neg h
theorem Own.setAt {w:World} {b sz n:Nat} {F:Nat→List Value} (h:Own w b sz n F) (i j:Nat) (v:Value) (hi:i<n) (hj:j<sz) (hl:(F i).length=sz) :
  Own (w.setCell ⟨b,i*sz+j,none⟩ v) b sz n (aI F i ((F i).set j v)):=by
 obtain ⟨c,T,hc,hn,hf⟩:=h
 refine ⟨c.setIfInBounds (i*sz+j) v,T,?_,by simpa using hn,fun i' j' hi' hj'=>?_⟩
 ·rw [World.setCell]
  simp only [Array.getElem?_modify]
  simp [hc]
 ·have hlt:i' * sz+j' < c.size:=by
   rw [hn]
   have:=Nat.mul_le_mul_right sz (show i' + 1≤n by omega)
   rw [Nat.succ_mul] at this;omega
  rw [Zb]
  by_cases e:i*sz+j=i' * sz+j'
  ·have e1:i=i':=by
    have h1:(i*sz+j)/sz=i:=by rw [Nat.mul_comm,Nat.mul_add_div (by omega),Nat.div_eq_of_lt hj,Nat.add_zero]
    have h2:(i' * sz+j')/sz=i':=by rw [Nat.mul_comm,Nat.mul_add_div (by omega),Nat.div_eq_of_lt hj',Nat.add_zero]
    rw [← h1,← h2,e]
   subst e1
   obtain rfl:j=j':=by omega
   rw [if_pos rfl,if_pos hlt,aG,List.getElem?_set]
   simp [hl,hj]
  ·rw [if_neg e,hf i' j' hi' hj']
   by_cases e1:i' = i
   ·subst e1
    rw [aG,List.getElem?_set,if_neg (by omega)]
   ·rw [Io e1]
theorem Own.set1 {w:World} {b n:Nat} {F:Nat→List Value} (h:Own w b 1 n F) (i:Nat) (v:Value) (hi:i<n) (hl:(F i).length=1):Own (w.setCell ⟨b,i,none⟩ v) b 1 n (aI F i [v]):=by
 have:=h.setAt i 0 v hi (by omega) hl
 rw [Nat.mul_one,Nat.add_zero] at this
 match hF:F i,hl with
 | [x],_=>rw [hF] at this;exact this
theorem JA (z:Array Value) (m k:Nat) (hk:k<m) (hz:0<z.size):(madeCells z m)[k]?=z[k%z.size]?:=by
 unfold madeCells
 have h2:k%z.size<z.size:=Nat.mod_lt _ hz
 simp [hk,h2,getElem!_pos]
theorem Zc {P:Program} {T:TypeId} {zs:List Value} {bytes:Nat} (h:(P.info? T).map (fun i=>(i.zero.map (fun z=>z.cells.toList),i.size,i.bytes))=some (some zs,zs.length,bytes)) :
  ∃ i z,P.info? T=some i∧i.zero=some z∧z.cells.toList=zs∧i.size=zs.length∧i.bytes=bytes:=by
 cases hi:P.info? T with
 | none=>rw [hi] at h;cases h
 | some i =>
  rw [hi] at h
  simp only [Option.map_some,Option.some.injEq,Prod.mk.injEq] at h
  obtain ⟨h1,h2,h3⟩:=h
  cases hz:i.zero with
  | none=>rw [hz] at h1;cases h1
  | some z =>
   rw [hz] at h1
   exact ⟨i,z,rfl,hz,Option.some.inj h1,h2,h3⟩
theorem NG {P:Program} {w:World} {ops:Array Oper} {rest:List Oper} {o:Oper} {a:Act} {Q:Exit→Act→World→Prop}
  (l c:Operand) (t e:TypeId) (zs:List Value) (bytes n:Nat) (C:Int) (hg:o.guard=none) (hop:o.op=Op.makeSlice t l c)
  (h1:P.underlying t=some (.slice e)) (h2:(P.info? e).map (fun i=>(i.zero.map (fun z=>z.cells.toList),i.size,i.bytes))=some (some zs,zs.length,bytes)) (hzs:0<zs.length)
  (hl:a.eval l = .int .i64 C) (hc:a.eval c = .int .i64 C) (hC:C=(n:Int)) (hn:n≤4294967296) (hb:bytes≤1024)
  (hK : ∀ w',Own w' w.heap.size zs.length n (fun _=>zs)→Below w.heap.size w w'→w'.heap.size=w.heap.size+1→wpList P ops Q rest (a.put o.dst (.slice (some ⟨w.heap.size,0,none⟩) n n)) w') :
  wpList P ops Q (o::rest) a w:=by
 obtain ⟨i,z,hi,hz,hzc,hs,hbb⟩:=Zc h2
 refine wpList_plain hg fun K hK'=>?_
 have hrun:=run_make (P:=P) w t e i _ h1 hi hz .i64 .i64 n n (by omega) (by omega) (by
  rw [hbb]
  have h5:=Nat.mul_le_mul hb hn
  omega) (by omega)
 subst hC
 unfold Oper.wp
 simp [execOp,hop,hl,hc,hrun,Result.andThen]
 rw [hs]
 have hzz:z.cells.size=zs.length:=by rw [← Array.length_toList,hzc]
 refine hK' _ _ (hK _ ⟨madeCells z.cells (n*zs.length),e,heap_alloc_new w _,size_madeCells _ _,fun i j hi hj=>?_⟩ ((Below.refl _ _).alloc (Nat.le_refl _) _) (by simp))
 have hlt:i*zs.length+j<n*zs.length:=by
  have:=Nat.mul_le_mul_right zs.length (show i+1≤n by omega)
  rw [Nat.succ_mul] at this;omega
 rw [JA _ _ _ hlt (by omega),hzz,Nat.mul_comm,Nat.mul_add_mod,Nat.mod_eq_of_lt hj,← hzc,Array.getElem?_toList]
end Go.Proofs.Ins
